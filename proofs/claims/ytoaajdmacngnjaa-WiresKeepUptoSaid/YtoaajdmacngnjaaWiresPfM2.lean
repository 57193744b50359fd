/- Own lemmas: the texts LibZ, Iter, Facts, WiresA, LibAC, LibAA, WiresB, WiresC, WiresD, WiresE, LibAD, WiresF, WiresG, WiresH. -/
import Derived.Shelf.SlIterI.Nil
import Derived.Shelf.SlIterI.Sorted
import Derived.Shelf.SortM.Plain
import Derived.Shelf.SortM.SortNone
import Derived.Test.YtoaajdmacngnjaaProg
import Derived.Test.YtoaajdmacngnjaaRows
import Derived.Test.YtoaajdmacngnjaaWiresPfM1
namespace Go.BK
open Go.RowKit
section
variable {P : Program} {w0 : World} {S0 : BSet} {n : Nat} {F : Fr} {A r : List HP} {ops : Array Oper} {rest : List Oper} {Q : Exit → Act → World → Prop} {L LR : List HP}
theorem St.pack {w : World} (h : TakeL L A r) (st : St w0 S0 A w) : St w0 S0 (sepL L :: r) w := st.mono fun _ _ hs => h.star hs
theorem St.unpack {w : World} (ht : Take (sepL L) A r) (hL : LR = L ++ r) (st : St w0 S0 A w) : St w0 S0 LR w := st.mono fun _ _ hs => by rw [hL]; exact sepL_append (ht.star hs)
theorem WL.unpack (ht : Take (sepL L) A r) (hL : LR = L ++ r) (kk : WL P w0 S0 n ops Q rest F LR) : WL P w0 S0 n ops Q rest F A := kk.conv fun _ hs => hs.unpack ht hL
theorem WC.unpack {c : Code} (ht : Take (sepL L) A r) (hL : LR = L ++ r) (kk : WC P w0 S0 n c Q F LR) : WC P w0 S0 n c Q F A := kk.conv fun _ hs => hs.unpack ht hL
theorem WE.unpack {e : Exit} (ht : Take (sepL L) A r) (hL : LR = L ++ r) (kk : WE w0 S0 n Q e F LR) : WE w0 S0 n Q e F A := kk.conv fun _ hs => hs.unpack ht hL
theorem St.noneL {w : World} (h : St w0 S0 A w) : St w0 S0 (sepL [] :: A) w :=
  h.mono fun S w hs => ⟨fun _ => False, S, fun b => by simp, fun b hb => hb.elim, fun _ h => h, hs⟩
/-- A part of what is seen. -/
theorem Sees.part {w : World} {S : BSet} {B : HP} {L' : List HP} (h : Sees w S (sepL L)) (ht : Take B L L') : Sees w S B := by
  obtain ⟨R, h1, h2⟩ := h
  obtain ⟨S1, S2, hu, _, h3, _⟩ := ht.star h1
  exact ⟨S1, h3, fun b hb => h2 b ((hu b).2 (.inl hb))⟩
end
theorem take_map_last {α : Type} (f : α → HP) (x : α) : ∀ l : List α, Take (f x) ((l ++ [x]).map f) (l.map f)
  | [] => .head
  | _ :: r => .tail (take_map_last f x r)
theorem take_map_at {α : Type} {f : α → HP} {l : List α} {d : α} {i : Nat} (h : i < l.length) : (l.map f)[i]? = some (f (l.getD i d)) := by
  rw [List.getElem?_map, List.getD_eq_getElem?_getD, List.getElem?_eq_getElem h]; rfl
theorem take_map_set {α : Type} {f : α → HP} {l : List α} {i : Nat} (x : α) (h : i < l.length) : Take (f x) ((l.set i x).map f) ((l.map f).eraseIdx i) := by
  rw [List.map_set]
  exact take_set _ (by rw [List.length_map]; exact h)
end Go.BK
namespace Go.BK
open Go.RowKit
section
variable {P : Program} {w0 : World} {S0 : BSet} {n : Nat} {F : Fr} {A A' r r' : List HP} {bl bl' : Nat} {T T' U U' : TypeId}
end
end Go.BK
namespace Go.Proofs
open Go.Shelf
def Try.keysI_ren : Go.Shelf.Ren := ⟨fun | 7 => 22 | 10 => 29 | n => n, fun | 23 => 48 | 26 => 3 | 3 => 55 | 28 => 61 | 0 => 0 | 27 => 60 | 33 => 69 | 4 => 4 | n => n, fun | n => n⟩
theorem Try.keysI : Go.Proofs.SlLaysZI.n7 Try.prog Try.keysI_ren := {
  mixed := by kernel_rfl
  f7 := ⟨Try.f22.name, by decide, Try.func22.trans (congrArg some (by kernel_rfl))⟩
  f10 := ⟨Try.f29.name, by decide, Try.func29.trans (congrArg some (by kernel_rfl))⟩
  t0 := Try.underlying0
  a0 := Try.isAgg0
  z0 := Try.sizeOf0
  v0 := Try.zeroValue0
  t4 := Try.underlying4
  a4 := Try.isAgg4
  z4 := Try.sizeOf4
  v4 := Try.zeroValue4
  t23 := Try.underlying48
  a23 := Try.isAgg48
  z23 := Try.sizeOf48
  v23 := Try.zeroValue48
  t26 := Try.underlying3
  a26 := Try.isAgg3
  z26 := Try.sizeOf3
  v26 := Try.zeroValue3
  t27 := Try.underlying60
  a27 := Try.isAgg60
  z27 := Try.sizeOf60
  v27 := Try.zeroValue60
  t28 := Try.underlying61
  a28 := Try.isAgg61
  z28 := Try.sizeOf61
  v28 := Try.zeroValue61
  t33 := Try.underlying69
  a33 := Try.isAgg69
  z33 := Try.sizeOf69
  v33 := Try.zeroValue69 }
def Try.sortedI_ren : Go.Shelf.Ren := ⟨fun | 6 => 21 | 8 => 27 | 9 => 28 | 11 => 32 | 13 => 34 | 12 => 33 | 23 => 44 | 24 => 45 | 14 => 35 | 15 => 36 | 16 => 37 | 17 => 38 | 18 => 39 | 19 => 40 | 20 => 41 | 21 => 42 | 22 => 43 | 25 => 46 | 26 => 47 | 27 => 48 | 28 => 49 | 29 => 50 | 30 => 51 | 31 => 52 | n => n, fun | 26 => 3 | 28 => 61 | 24 => 58 | 0 => 0 | 3 => 3 | 37 => 75 | 48 => 85 | 50 => 87 | 4 => 4 | 40 => 78 | 39 => 77 | 45 => 65 | 5 => 5 | 9 => 9 | 51 => 88 | 55 => 92 | 57 => 94 | 58 => 95 | 33 => 69 | n => n, fun | n => n⟩
theorem Try.sortedI : Go.Proofs.SlLaysZI.n6 Try.prog Try.sortedI_ren := {
  mixed := by kernel_rfl
  f6 := ⟨Try.f21.name, by decide, Try.func21.trans (congrArg some (by kernel_rfl))⟩
  f8 := ⟨Try.f27.name, by decide, Try.func27.trans (congrArg some (by kernel_rfl))⟩
  f11 := ⟨Try.f32.name, by decide, Try.func32.trans (congrArg some (by kernel_rfl))⟩
  t0 := Try.underlying0
  a0 := Try.isAgg0
  z0 := Try.sizeOf0
  v0 := Try.zeroValue0
  t24 := Try.underlying58
  a24 := Try.isAgg58
  z24 := Try.sizeOf58
  v24 := Try.zeroValue58
  t26 := Try.underlying3
  a26 := Try.isAgg3
  z26 := Try.sizeOf3
  v26 := Try.zeroValue3
  t28 := Try.underlying61
  a28 := Try.isAgg61
  z28 := Try.sizeOf61
  v28 := Try.zeroValue61
  i26 := by kernel_rfl }
def Try.sortI_ren : Go.Shelf.Ren := ⟨fun | 5 => 28 | 8 => 34 | 7 => 33 | 19 => 44 | 20 => 45 | 10 => 35 | 11 => 36 | 12 => 37 | 13 => 38 | 14 => 39 | 15 => 40 | 16 => 41 | 17 => 42 | 18 => 43 | 30 => 46 | 31 => 47 | 32 => 48 | 33 => 49 | 34 => 50 | 35 => 51 | 40 => 52 | n => n, fun | 23 => 58 | 25 => 3 | 3 => 3 | 32 => 75 | 22 => 58 | 0 => 0 | 44 => 85 | 46 => 87 | 4 => 4 | 36 => 78 | 35 => 77 | 41 => 65 | 5 => 5 | 9 => 9 | 53 => 88 | 57 => 92 | 63 => 94 | 64 => 95 | n => n, fun | n => n⟩
theorem Try.sortI : Go.Proofs.SlLaysM.n5 Try.prog Try.sortI_ren := {
  mixed := by kernel_rfl
  f5 := ⟨Try.f28.name, by decide, Try.func28.trans (congrArg some (by kernel_rfl))⟩
  f7 := ⟨Try.f33.name, by decide, Try.func33.trans (congrArg some (by kernel_rfl))⟩
  f8 := Try.func34.trans (congrArg some (by kernel_rfl))
  f10 := ⟨Try.f35.name, by decide, Try.func35.trans (congrArg some (by kernel_rfl))⟩
  f11 := ⟨Try.f36.name, by decide, Try.func36.trans (congrArg some (by kernel_rfl))⟩
  f12 := ⟨Try.f37.name, by decide, Try.func37.trans (congrArg some (by kernel_rfl))⟩
  f13 := ⟨Try.f38.name, by decide, Try.func38.trans (congrArg some (by kernel_rfl))⟩
  f14 := ⟨Try.f39.name, by decide, Try.func39.trans (congrArg some (by kernel_rfl))⟩
  f15 := ⟨Try.f40.name, by decide, Try.func40.trans (congrArg some (by kernel_rfl))⟩
  f16 := ⟨Try.f41.name, by decide, Try.func41.trans (congrArg some (by kernel_rfl))⟩
  f17 := ⟨Try.f42.name, by decide, Try.func42.trans (congrArg some (by kernel_rfl))⟩
  f18 := ⟨Try.f43.name, by decide, Try.func43.trans (congrArg some (by kernel_rfl))⟩
  f19 := Try.func44.trans (congrArg some (by kernel_rfl))
  f20 := Try.func45.trans (congrArg some (by kernel_rfl))
  f30 := ⟨Try.f46.name, by decide, Try.func46.trans (congrArg some (by kernel_rfl))⟩
  f31 := Try.func47.trans (congrArg some (by kernel_rfl))
  f32 := Try.func48.trans (congrArg some (by kernel_rfl))
  f33 := ⟨Try.f49.name, by decide, Try.func49.trans (congrArg some (by kernel_rfl))⟩
  f34 := ⟨Try.f50.name, by decide, Try.func50.trans (congrArg some (by kernel_rfl))⟩
  f35 := ⟨Try.f51.name, by decide, Try.func51.trans (congrArg some (by kernel_rfl))⟩
  f40 := ⟨Try.f52.name, by decide, Try.func52.trans (congrArg some (by kernel_rfl))⟩
  t0 := Try.underlying0
  a0 := Try.isAgg0
  z0 := Try.sizeOf0
  v0 := Try.zeroValue0
  t3 := Try.underlying3
  a3 := Try.isAgg3
  z3 := Try.sizeOf3
  v3 := Try.zeroValue3
  t4 := Try.underlying4
  a4 := Try.isAgg4
  z4 := Try.sizeOf4
  v4 := Try.zeroValue4
  t5 := Try.underlying5
  a5 := Try.isAgg5
  z5 := Try.sizeOf5
  v5 := Try.zeroValue5
  t9 := Try.underlying9
  a9 := Try.isAgg9
  z9 := Try.sizeOf9
  v9 := Try.zeroValue9
  t22 := Try.underlying58
  a22 := Try.isAgg58
  z22 := Try.sizeOf58
  v22 := Try.zeroValue58
  t23 := Try.underlying58
  a23 := Try.isAgg58
  z23 := Try.sizeOf58
  v23 := Try.zeroValue58
  t25 := Try.underlying3
  a25 := Try.isAgg3
  z25 := Try.sizeOf3
  v25 := Try.zeroValue3
  t32 := Try.underlying75
  a32 := Try.isAgg75
  z32 := Try.sizeOf75
  v32 := Try.zeroValue75
  t35 := Try.underlying77
  a35 := Try.isAgg77
  z35 := Try.sizeOf77
  v35 := Try.zeroValue77
  t36 := Try.underlying78
  a36 := Try.isAgg78
  z36 := Try.sizeOf78
  v36 := Try.zeroValue78
  t41 := Try.underlying65
  a41 := Try.isAgg65
  z41 := Try.sizeOf65
  v41 := Try.zeroValue65
  t44 := Try.underlying85
  a44 := Try.isAgg85
  z44 := Try.sizeOf85
  v44 := Try.zeroValue85
  t46 := Try.underlying87
  a46 := Try.isAgg87
  z46 := Try.sizeOf87
  v46 := Try.zeroValue87
  t53 := Try.underlying88
  a53 := Try.isAgg88
  z53 := Try.sizeOf88
  v53 := Try.zeroValue88
  t57 := Try.underlying92
  a57 := Try.isAgg92
  z57 := Try.sizeOf92
  v57 := Try.zeroValue92
  t63 := Try.underlying94
  a63 := Try.isAgg94
  z63 := Try.sizeOf94
  v63 := Try.zeroValue94
  t64 := Try.underlying95
  a64 := Try.isAgg95
  z64 := Try.sizeOf95
  v64 := Try.zeroValue95 }
end Go.Proofs
namespace Go.Proofs.Ytoaajdmacngnjaa
open Go.BK
theorem Try.mixed : Try.prog.follows .mixedOrders = true := Checked.mixed Try.checked
instance : UndC Try.prog 3 (.int .i64) := ⟨Try.underlying3⟩
instance : ScalC Try.prog 3 := ⟨by kernel_rfl⟩
instance : SzC Try.prog 3 1 := ⟨by kernel_rfl⟩
instance : ByC Try.prog 3 8 := ⟨by kernel_rfl⟩
instance : ZvC Try.prog 3 (.int .i64 0) := ⟨by kernel_rfl⟩
instance : UndC Try.prog 4 .bool := ⟨Try.underlying4⟩
instance : ScalC Try.prog 4 := ⟨by kernel_rfl⟩
instance : SzC Try.prog 4 1 := ⟨by kernel_rfl⟩
instance : ByC Try.prog 4 1 := ⟨by kernel_rfl⟩
instance : ZvC Try.prog 4 (.bool false) := ⟨by kernel_rfl⟩
instance : UndC Try.prog 5 (.int .u8) := ⟨Try.underlying5⟩
instance : ScalC Try.prog 5 := ⟨by kernel_rfl⟩
instance : SzC Try.prog 5 1 := ⟨by kernel_rfl⟩
instance : ByC Try.prog 5 1 := ⟨by kernel_rfl⟩
instance : ZvC Try.prog 5 (.int .u8 0) := ⟨by kernel_rfl⟩
instance : UndC Try.prog 9 .string := ⟨Try.underlying9⟩
instance : ScalC Try.prog 9 := ⟨by kernel_rfl⟩
instance : SzC Try.prog 9 1 := ⟨by kernel_rfl⟩
instance : ByC Try.prog 9 16 := ⟨by kernel_rfl⟩
instance : ZvC Try.prog 9 (.string ⟨#[]⟩) := ⟨by kernel_rfl⟩
instance : UndC Try.prog 22 (.slice 30) := ⟨Try.underlying22⟩
instance : ScalC Try.prog 22 := ⟨by kernel_rfl⟩
instance : SzC Try.prog 22 1 := ⟨by kernel_rfl⟩
instance : ByC Try.prog 22 24 := ⟨by kernel_rfl⟩
instance : ZvC Try.prog 22 (.slice none 0 0) := ⟨by kernel_rfl⟩
instance : UndC Try.prog 24 (.pointer 50) := ⟨Try.underlying24⟩
instance : ScalC Try.prog 24 := ⟨by kernel_rfl⟩
instance : SzC Try.prog 24 1 := ⟨by kernel_rfl⟩
instance : ByC Try.prog 24 8 := ⟨by kernel_rfl⟩
instance : ZvC Try.prog 24 (.pointer none) := ⟨by kernel_rfl⟩
instance : UndC Try.prog 26 (.pointer 52) := ⟨Try.underlying26⟩
instance : ScalC Try.prog 26 := ⟨by kernel_rfl⟩
instance : SzC Try.prog 26 1 := ⟨by kernel_rfl⟩
instance : ByC Try.prog 26 8 := ⟨by kernel_rfl⟩
instance : ZvC Try.prog 26 (.pointer none) := ⟨by kernel_rfl⟩
instance : UndC Try.prog 28 (.slice 34) := ⟨Try.underlying28⟩
instance : ScalC Try.prog 28 := ⟨by kernel_rfl⟩
instance : SzC Try.prog 28 1 := ⟨by kernel_rfl⟩
instance : ByC Try.prog 28 24 := ⟨by kernel_rfl⟩
instance : ZvC Try.prog 28 (.slice none 0 0) := ⟨by kernel_rfl⟩
instance : AggC Try.prog 29 := ⟨by kernel_rfl⟩
instance : SzC Try.prog 29 4 := ⟨by kernel_rfl⟩
instance : ByC Try.prog 29 48 := ⟨by kernel_rfl⟩
instance : ZvC Try.prog 29 (.agg #[.bool false, .int .i64 0, .int .i64 0, .slice none 0 0]) := ⟨by kernel_rfl⟩
instance : PlC Try.prog 29 [(0, 1), (1, 1), (2, 1), (3, 1)] := ⟨by kernel_rfl⟩
instance : AggC Try.prog 30 := ⟨by kernel_rfl⟩
instance : SzC Try.prog 30 4 := ⟨by kernel_rfl⟩
instance : ByC Try.prog 30 48 := ⟨by kernel_rfl⟩
instance : ZvC Try.prog 30 (.agg #[.bool false, .int .i64 0, .int .i64 0, .slice none 0 0]) := ⟨by kernel_rfl⟩
instance : PlC Try.prog 30 [(0, 1), (1, 1), (2, 1), (3, 1)] := ⟨by kernel_rfl⟩
instance : FldC Try.prog 30 0 0 := ⟨by kernel_rfl⟩
instance : FldC Try.prog 30 1 1 := ⟨by kernel_rfl⟩
instance : FldC Try.prog 30 2 2 := ⟨by kernel_rfl⟩
instance : FldC Try.prog 30 3 3 := ⟨by kernel_rfl⟩
instance : UndC Try.prog 31 (.int .i64) := ⟨Try.underlying31⟩
instance : ScalC Try.prog 31 := ⟨by kernel_rfl⟩
instance : SzC Try.prog 31 1 := ⟨by kernel_rfl⟩
instance : ByC Try.prog 31 8 := ⟨by kernel_rfl⟩
instance : ZvC Try.prog 31 (.int .i64 0) := ⟨by kernel_rfl⟩
instance : AggC Try.prog 33 := ⟨by kernel_rfl⟩
instance : SzC Try.prog 33 2 := ⟨by kernel_rfl⟩
instance : ByC Try.prog 33 24 := ⟨by kernel_rfl⟩
instance : ZvC Try.prog 33 (.agg #[.int .i64 0, .string ⟨#[]⟩]) := ⟨by kernel_rfl⟩
instance : PlC Try.prog 33 [(0, 1), (1, 1)] := ⟨by kernel_rfl⟩
instance : AggC Try.prog 34 := ⟨by kernel_rfl⟩
instance : SzC Try.prog 34 2 := ⟨by kernel_rfl⟩
instance : ByC Try.prog 34 24 := ⟨by kernel_rfl⟩
instance : ZvC Try.prog 34 (.agg #[.int .i64 0, .string ⟨#[]⟩]) := ⟨by kernel_rfl⟩
instance : PlC Try.prog 34 [(0, 1), (1, 1)] := ⟨by kernel_rfl⟩
instance : FldC Try.prog 34 0 0 := ⟨by kernel_rfl⟩
instance : FldC Try.prog 34 1 1 := ⟨by kernel_rfl⟩
instance : UndC Try.prog 40 (.map 34 3) := ⟨Try.underlying40⟩
instance : ScalC Try.prog 40 := ⟨by kernel_rfl⟩
instance : SzC Try.prog 40 1 := ⟨by kernel_rfl⟩
instance : ByC Try.prog 40 8 := ⟨by kernel_rfl⟩
instance : ZvC Try.prog 40 (.map none) := ⟨by kernel_rfl⟩
instance : UndC Try.prog 41 (.map 3 3) := ⟨Try.underlying41⟩
instance : ScalC Try.prog 41 := ⟨by kernel_rfl⟩
instance : SzC Try.prog 41 1 := ⟨by kernel_rfl⟩
instance : ByC Try.prog 41 8 := ⟨by kernel_rfl⟩
instance : ZvC Try.prog 41 (.map none) := ⟨by kernel_rfl⟩
instance : UndC Try.prog 43 (.slice 9) := ⟨Try.underlying43⟩
instance : ScalC Try.prog 43 := ⟨by kernel_rfl⟩
instance : SzC Try.prog 43 1 := ⟨by kernel_rfl⟩
instance : ByC Try.prog 43 24 := ⟨by kernel_rfl⟩
instance : ZvC Try.prog 43 (.slice none 0 0) := ⟨by kernel_rfl⟩
instance : UndC Try.prog 46 (.slice 43) := ⟨Try.underlying46⟩
instance : ScalC Try.prog 46 := ⟨by kernel_rfl⟩
instance : SzC Try.prog 46 1 := ⟨by kernel_rfl⟩
instance : ByC Try.prog 46 24 := ⟨by kernel_rfl⟩
instance : ZvC Try.prog 46 (.slice none 0 0) := ⟨by kernel_rfl⟩
instance : UndC Try.prog 48 (.map 3 55) := ⟨Try.underlying48⟩
instance : ScalC Try.prog 48 := ⟨by kernel_rfl⟩
instance : SzC Try.prog 48 1 := ⟨by kernel_rfl⟩
instance : ByC Try.prog 48 8 := ⟨by kernel_rfl⟩
instance : ZvC Try.prog 48 (.map none) := ⟨by kernel_rfl⟩
instance : AggC Try.prog 49 := ⟨by kernel_rfl⟩
instance : SzC Try.prog 49 1 := ⟨by kernel_rfl⟩
instance : ByC Try.prog 49 8 := ⟨by kernel_rfl⟩
instance : ZvC Try.prog 49 (.agg #[.map none]) := ⟨by kernel_rfl⟩
instance : PlC Try.prog 49 [(0, 1)] := ⟨by kernel_rfl⟩
instance : AggC Try.prog 50 := ⟨by kernel_rfl⟩
instance : SzC Try.prog 50 1 := ⟨by kernel_rfl⟩
instance : ByC Try.prog 50 8 := ⟨by kernel_rfl⟩
instance : ZvC Try.prog 50 (.agg #[.map none]) := ⟨by kernel_rfl⟩
instance : PlC Try.prog 50 [(0, 1)] := ⟨by kernel_rfl⟩
instance : FldC Try.prog 50 0 0 := ⟨by kernel_rfl⟩
instance : AggC Try.prog 51 := ⟨by kernel_rfl⟩
instance : SzC Try.prog 51 3 := ⟨by kernel_rfl⟩
instance : ByC Try.prog 51 56 := ⟨by kernel_rfl⟩
instance : ZvC Try.prog 51 (.agg #[.map none, .slice none 0 0, .slice none 0 0]) := ⟨by kernel_rfl⟩
instance : PlC Try.prog 51 [(0, 1), (1, 1), (2, 1)] := ⟨by kernel_rfl⟩
instance : AggC Try.prog 52 := ⟨by kernel_rfl⟩
instance : SzC Try.prog 52 3 := ⟨by kernel_rfl⟩
instance : ByC Try.prog 52 56 := ⟨by kernel_rfl⟩
instance : ZvC Try.prog 52 (.agg #[.map none, .slice none 0 0, .slice none 0 0]) := ⟨by kernel_rfl⟩
instance : PlC Try.prog 52 [(0, 1), (1, 1), (2, 1)] := ⟨by kernel_rfl⟩
instance : FldC Try.prog 52 0 0 := ⟨by kernel_rfl⟩
instance : FldC Try.prog 52 1 1 := ⟨by kernel_rfl⟩
instance : FldC Try.prog 52 2 2 := ⟨by kernel_rfl⟩
instance : AggC Try.prog 53 := ⟨by kernel_rfl⟩
instance : SzC Try.prog 53 3 := ⟨by kernel_rfl⟩
instance : ByC Try.prog 53 56 := ⟨by kernel_rfl⟩
instance : ZvC Try.prog 53 (.agg #[.int .i64 0, .slice none 0 0, .slice none 0 0]) := ⟨by kernel_rfl⟩
instance : PlC Try.prog 53 [(0, 1), (1, 1), (2, 1)] := ⟨by kernel_rfl⟩
instance : AggC Try.prog 54 := ⟨by kernel_rfl⟩
instance : SzC Try.prog 54 3 := ⟨by kernel_rfl⟩
instance : ByC Try.prog 54 56 := ⟨by kernel_rfl⟩
instance : ZvC Try.prog 54 (.agg #[.int .i64 0, .slice none 0 0, .slice none 0 0]) := ⟨by kernel_rfl⟩
instance : PlC Try.prog 54 [(0, 1), (1, 1), (2, 1)] := ⟨by kernel_rfl⟩
instance : FldC Try.prog 54 0 0 := ⟨by kernel_rfl⟩
instance : FldC Try.prog 54 1 1 := ⟨by kernel_rfl⟩
instance : FldC Try.prog 54 2 2 := ⟨by kernel_rfl⟩
instance : UndC Try.prog 55 (.pointer 54) := ⟨Try.underlying55⟩
instance : ScalC Try.prog 55 := ⟨by kernel_rfl⟩
instance : SzC Try.prog 55 1 := ⟨by kernel_rfl⟩
instance : ByC Try.prog 55 8 := ⟨by kernel_rfl⟩
instance : ZvC Try.prog 55 (.pointer none) := ⟨by kernel_rfl⟩
instance : UndC Try.prog 58 (.slice 3) := ⟨Try.underlying58⟩
instance : ScalC Try.prog 58 := ⟨by kernel_rfl⟩
instance : SzC Try.prog 58 1 := ⟨by kernel_rfl⟩
instance : ByC Try.prog 58 24 := ⟨by kernel_rfl⟩
instance : ZvC Try.prog 58 (.slice none 0 0) := ⟨by kernel_rfl⟩
instance : ScalC Try.prog 60 := ⟨by kernel_rfl⟩
instance : SzC Try.prog 60 1 := ⟨by kernel_rfl⟩
instance : ByC Try.prog 60 8 := ⟨by kernel_rfl⟩
instance : ZvC Try.prog 60 (.nilFunc) := ⟨by kernel_rfl⟩
instance : ScalC Try.prog 61 := ⟨by kernel_rfl⟩
instance : SzC Try.prog 61 1 := ⟨by kernel_rfl⟩
instance : ByC Try.prog 61 8 := ⟨by kernel_rfl⟩
instance : ZvC Try.prog 61 (.nilFunc) := ⟨by kernel_rfl⟩
instance : ScalC Try.prog 69 := ⟨by kernel_rfl⟩
instance : SzC Try.prog 69 1 := ⟨by kernel_rfl⟩
instance : ByC Try.prog 69 8 := ⟨by kernel_rfl⟩
instance : ZvC Try.prog 69 (.nilFunc) := ⟨by kernel_rfl⟩
instance : UndC Try.prog 71 (.slice 5) := ⟨Try.underlying71⟩
instance : ScalC Try.prog 71 := ⟨by kernel_rfl⟩
instance : SzC Try.prog 71 1 := ⟨by kernel_rfl⟩
instance : ByC Try.prog 71 24 := ⟨by kernel_rfl⟩
instance : ZvC Try.prog 71 (.slice none 0 0) := ⟨by kernel_rfl⟩
instance : UndC Try.prog 75 (.int .u64) := ⟨Try.underlying75⟩
instance : ScalC Try.prog 75 := ⟨by kernel_rfl⟩
instance : SzC Try.prog 75 1 := ⟨by kernel_rfl⟩
instance : ByC Try.prog 75 8 := ⟨by kernel_rfl⟩
instance : ZvC Try.prog 75 (.int .u64 0) := ⟨by kernel_rfl⟩
instance : UndC Try.prog 77 (.int .i64) := ⟨Try.underlying77⟩
instance : ScalC Try.prog 77 := ⟨by kernel_rfl⟩
instance : SzC Try.prog 77 1 := ⟨by kernel_rfl⟩
instance : ByC Try.prog 77 8 := ⟨by kernel_rfl⟩
instance : ZvC Try.prog 77 (.int .i64 0) := ⟨by kernel_rfl⟩
instance : UndC Try.prog 85 (.int .u32) := ⟨Try.underlying85⟩
instance : ScalC Try.prog 85 := ⟨by kernel_rfl⟩
instance : SzC Try.prog 85 1 := ⟨by kernel_rfl⟩
instance : ByC Try.prog 85 4 := ⟨by kernel_rfl⟩
instance : ZvC Try.prog 85 (.int .u32 0) := ⟨by kernel_rfl⟩
instance : UndC Try.prog 87 (.int .u64) := ⟨Try.underlying87⟩
instance : ScalC Try.prog 87 := ⟨by kernel_rfl⟩
instance : SzC Try.prog 87 1 := ⟨by kernel_rfl⟩
instance : ByC Try.prog 87 8 := ⟨by kernel_rfl⟩
instance : ZvC Try.prog 87 (.int .u64 0) := ⟨by kernel_rfl⟩
instance : UndC Try.prog 88 (.int .u64) := ⟨Try.underlying88⟩
instance : ScalC Try.prog 88 := ⟨by kernel_rfl⟩
instance : SzC Try.prog 88 1 := ⟨by kernel_rfl⟩
instance : ByC Try.prog 88 8 := ⟨by kernel_rfl⟩
instance : ZvC Try.prog 88 (.int .u64 0) := ⟨by kernel_rfl⟩
instance : UndC Try.prog 92 (.pointer 3) := ⟨Try.underlying92⟩
instance : ScalC Try.prog 92 := ⟨by kernel_rfl⟩
instance : SzC Try.prog 92 1 := ⟨by kernel_rfl⟩
instance : ByC Try.prog 92 8 := ⟨by kernel_rfl⟩
instance : ZvC Try.prog 92 (.pointer none) := ⟨by kernel_rfl⟩
instance : UndC Try.prog 94 (.pointer 88) := ⟨Try.underlying94⟩
instance : ScalC Try.prog 94 := ⟨by kernel_rfl⟩
instance : SzC Try.prog 94 1 := ⟨by kernel_rfl⟩
instance : ByC Try.prog 94 8 := ⟨by kernel_rfl⟩
instance : ZvC Try.prog 94 (.pointer none) := ⟨by kernel_rfl⟩
end Go.Proofs.Ytoaajdmacngnjaa
namespace Go.Proofs.Ytoaajdmacngnjaa
open Go.RowKit Go.BK Go.Maps Go.Sort Go.Shelf
def sortI (l : List Int) : List Int := l.mergeSort fun x y => decide (x ≤ y)
theorem sortI_perm (l : List Int) : (sortI l).Perm l := List.mergeSort_perm _ _
theorem sortI_le (l : List Int) : (sortI l).Pairwise (· ≤ ·) := by
  have h := List.pairwise_mergeSort (le := fun x y : Int => decide (x ≤ y)) (fun a b c h1 h2 => by simp at *; omega) (fun a b => by simp; omega) l
  exact h.imp fun h => by simpa using h
theorem sortI_eq {l l' : List Int} (h : l.Perm l') : sortI l = sortI l' :=
  List.Perm.eq_of_pairwise (le := (· ≤ ·)) (fun a b _ _ h1 h2 => Int.le_antisymm h1 h2) (sortI_le l) (sortI_le l') (((sortI_perm l).trans h).trans (sortI_perm l').symm)
theorem maps_keys (b : Nat) (w : World) (S : BSet) : Tri Try.prog 22 #[.map (some b)] w S fun u A => ∃ l, u = .func (.func 29) #[] [ptr l 0].toArray ∧ A = [.blk l [.map (some b)].toArray 48] := by
  have h : Calls Try.prog 22 #[.map (some b)] w fun e w' => e = .returned (.func (.func 29) #[] #[.pointer (some ⟨w.heap.size, 0, none⟩)]) ∧ w' = w.alloc (.cells #[.map (some b)] 48) :=
    (callsIn_wide (n := 5)).1 (AnyZI.keys_in Try.keysI Fence.wide 5 trivial rfl (some b) w)
  refine ⟨h.mono ?_⟩
  rintro e w' ⟨rfl, rfl⟩
  refine ⟨_, _, rfl, ⟨w.heap.size, rfl, rfl⟩, fun x => x = w.heap.size, star_emp ⟨fun _ => Iff.rfl, 0, 0, (Go.MapKept.heap_alloc w _).1, fun o _ h => by omega⟩, ⟨rfl, rfl, rfl, by simp, fun x hx _ => Below.heap_alloc w _ x hx⟩, fun x hx => .inr (by omega)⟩
theorem keyOf_int {a : Int} (h : (Lit.int .i64 a).wf = true) : keyOf Try.prog 3 (i64 a) = some (.int .i64 a) := by
  simp [keyOf, mapKey, Try.underlying3, h]
/-- An entry reads as its key alone. -/
def R0 : Value → Option (DataW Unit × List MemPlace) := fun _ => some (.nil, [])
theorem ent_fit {es : Array MapEntry} {cl : Nat} {m : List (Int × Value)} (hE : EntOk es.toList m) (hs : Go.MapKept.Stamped es cl) (hk : ∀ p ∈ m, (Lit.int .i64 p.1).wf = true) (hn : m.length ≤ 1099511627776) :
    ∀ x ∈ es.toList, ∃ p ∈ m, x.key = i64 p.1 ∧ x.val = p.2 ∧ Go.WideElems.rd Try.prog 3 R0 x = some (.int .i64 p.1, .nil) := by
  intro x hx
  have : (x.key, x.val) ∈ es.toList.map fun e => (e.key, e.val) := List.mem_map.2 ⟨x, hx, rfl⟩
  rw [hE] at this
  obtain ⟨p, hp, he⟩ := List.mem_map.1 this
  simp only [Prod.mk.injEq] at he
  refine ⟨p, hp, he.1.symm, he.2.symm, ?_⟩
  unfold Go.WideElems.rd
  rw [← he.1, keyOf_int (hk p hp)]
  rfl
theorem ent_owns {w : World} {S : BSet} {b : Nat} {m : List (Int × Value)} (h : Sees w S (.tmap b m)) (hk : ∀ p ∈ m, (Lit.int .i64 p.1).wf = true) (hn : m.length ≤ 1099511627776) :
    ∃ D0 : DataW Unit, w.ownsMap Try.prog 3 R0 b m.length D0 ∧ Maps.size D0 = m.length ∧ (intKeys D0).Perm (m.map (·.1)) := by
  obtain ⟨R, ⟨h1, es, cl, h2, h3, h4⟩, _⟩ := h
  have hf := ent_fit h3 h4 hk hn
  have hsz : es.size = m.length := by
    have := congrArg List.length h3
    simpa using this
  have hp := Go.WideShapes.sorted_perm (H := Unit) (es.toList.map (Go.WideElems.rg Try.prog 3 R0))
  refine ⟨_, ⟨es, cl, h2, ⟨by rw [hsz]; exact Nat.le_trans hn (by decide), h4, fun x hx => ?_⟩, by omega, rfl⟩, ?_, ?_⟩
  · obtain ⟨p, _, _, _, hr⟩ := hf x hx
    exact ⟨_, hr⟩
  · show ((es.toList.map (Go.WideElems.rg Try.prog 3 R0)).foldr DataW.insert []).length = _
    rw [hp.length_eq, List.length_map, Array.length_toList, hsz]
  · show (((es.toList.map (Go.WideElems.rg Try.prog 3 R0)).foldr DataW.insert []).map fun p => _root_.Go.intOf p.1).Perm _
    refine (hp.map _).trans ?_
    have hg : ∀ x ∈ es.toList, ∃ p, x.key = i64 p ∧ Go.WideElems.rg Try.prog 3 R0 x = (.int .i64 p, .nil) := fun x hx => by
      obtain ⟨p, _, hk', _, hr⟩ := hf x hx
      exact ⟨p.1, hk', Go.WideElems.rg_of hr⟩
    generalize Go.WideElems.rg Try.prog 3 R0 = G at hg
    have e : (es.toList.map G).map (fun p => _root_.Go.intOf p.1) = m.map (·.1) := by
      have h5 : (es.toList.map G).map (fun p => _root_.Go.intOf p.1) = (es.toList.map fun e => (e.key, e.val)).map fun p => (match p.1 with | .int _ a => a | _ => 0) := by
        rw [List.map_map, List.map_map]
        refine List.map_congr_left fun x hx => ?_
        obtain ⟨p, hk', hr⟩ := hg x hx
        show _root_.Go.intOf (G x).1 = match x.key with | .int _ a => a | _ => 0
        rw [hr, hk']
        rfl
      rw [h5, h3, List.map_map]
      rfl
    rw [e]
theorem sorts_wide (m : Nat) : AnyZI.SortsIn Try.prog Try.sortedI_ren Fence.wide m :=
  ⟨fun blk off cap ss W hH hblk hsz => callsIn_wide.2 (AnyM.slices_Sort_int Try.sortI blk off cap ss W hH hblk hsz), fun p cap W => callsIn_wide.2 (AnyM.slices_Sort_int_none Try.sortI p cap W)⟩
theorem slices_sorted (l b : Nat) (m : List (Int × Value)) (w : World) (S : BSet) (hl : Sees w S (.blk l [.map (some b)].toArray 48)) (hm : Sees w S (.tmap b m)) (hk : ∀ p ∈ m, (Lit.int .i64 p.1).wf = true) (hn : m.length ≤ 1099511627776) :
    Tri Try.prog 21 #[.func (.func 29) #[] [ptr l 0].toArray] w S fun u A => A = [.own 3 1 u (sortI (m.map (·.1))).length ((sortI (m.map (·.1))).map i64)] := by
  obtain ⟨D0, hown, hsz, hper⟩ := ent_owns hm hk hn
  obtain ⟨R, ⟨h1, hb⟩, _⟩ := hl
  have hcell : w.cell? ⟨l, 0, none⟩ = some (.map (some b)) := hb.cell rfl
  have hlt : l < w.heap.size := by obtain ⟨_, _, h2, _⟩ := hb; exact lt_of_get h2
  have hseq : SeqGives Fence.wide 2 Try.prog 29 #[.pointer (some ⟨l, 0, none⟩)] encZ (fun ss => ss.Perm (intKeys D0)) (Maps.size D0) w :=
    AnyZI.keys_gives (ρ := Try.keysI_ren) { Try.keysI with } Fence.wide _ trivial rfl (by omega) l b m.length D0 _ hlt hcell hown
  have h := AnyZI.sorted_in Try.sortedI Fence.wide 5 trivial trivial trivial trivial rfl (by omega) (sorts_wide _) (enters_of Try.func28 (by kernel_rfl) rfl) 29 #[.pointer (some ⟨l, 0, none⟩)] trivial (enters_of Try.func29 (by kernel_rfl) rfl) _ _ (by rw [hsz]; exact Nat.le_trans hn (by decide)) (by rw [hsz]; omega) w hseq
  have h' := callsIn_wide.1 h
  refine ⟨h'.mono ?_⟩
  rintro e w' ⟨v, ss, rfl, hS, ⟨hln, hrow⟩, _, hbw⟩
  have e1 : (ss.mergeSort fun x y => decide (x ≤ y)) = sortI (m.map (·.1)) := sortI_eq (hS.trans hper)
  rw [e1] at hrow hln
  have hlen : ss.length = (sortI (m.map (·.1))).length := by rw [← e1]; exact (List.mergeSort_perm _ _).length_eq.symm
  rw [hlen] at hrow
  have hz : ((sortI (m.map (·.1))).map i64) = (sortI (m.map (·.1))).map encZ := rfl
  rcases hrow with ⟨rfl, h0⟩ | ⟨gb, cap, cur, rfl, hbase, hgb, r1, r2, r3, r4⟩
  · refine ⟨_, _, rfl, rfl, fun _ => False, star_emp ⟨by simp, .inl ⟨rfl, h0, fun _ h => h⟩⟩, ⟨hbw.os, hbw.tape, hbw.output, hbw.size, fun x hx _ => hbw.block x hx⟩, fun _ h => h.elim⟩
  · refine ⟨_, _, rfl, rfl, fun x => x = gb, star_emp ⟨by simp, .inr ⟨gb, cap, cur.toList.drop (sortI (m.map (·.1))).length, rfl, r1, ?_, fun _ => Iff.rfl, 0, 0, ?_, fun o _ h => by omega⟩⟩, ⟨hbw.os, hbw.tape, hbw.output, hbw.size, fun x hx _ => hbw.block x hx⟩, fun x hx => .inr (by omega)⟩
    · rw [hz, ← r4, Nat.mul_one, List.take_append_drop, Array.length_toList, r3]
    · rw [hz, ← r4, Nat.mul_one, List.take_append_drop, Array.toArray_toList]
      exact hgb
end Go.Proofs.Ytoaajdmacngnjaa
namespace Go.BK
open Go.RowKit
section
variable {P : Program} {w0 : World} {S0 : BSet} {n : Nat} {F : Fr} {A r L : List HP} {ops : Array Oper} {Q : Exit → Act → World → Prop} {rest : List Oper} {α : Type} {f : α → HP} {φ : Prop}
theorem St.exH {w : World} (ht : Take (.ex f) A r) (h : St w0 S0 A w) : ∃ a, St w0 S0 (f a :: r) w := by
  obtain ⟨S, h1, h2, h3⟩ := h
  obtain ⟨S1, S2, hu, hd, ⟨a, h4⟩, h5⟩ := ht.star h1
  exact ⟨a, S, ⟨S1, S2, hu, hd, h4, h5⟩, h2, h3⟩
theorem St.pureH {w : World} (ht : Take (.pure φ) A r) (h : St w0 S0 A w) : φ ∧ St w0 S0 r w := by
  refine ⟨?_, h.drop ht⟩
  obtain ⟨S, h⟩ := h.take ht
  exact h.2
theorem WL.exH (ht : Take (.ex f) A r) (kk : ∀ a, WL P w0 S0 n ops Q rest F (f a :: r)) : WL P w0 S0 n ops Q rest F A :=
  ⟨fun a w ha hs => by obtain ⟨x, hx⟩ := hs.exH ht; exact (kk x).go a w ha hx⟩
theorem WC.exH {c : Code} (ht : Take (.ex f) A r) (kk : ∀ a, WC P w0 S0 n c Q F (f a :: r)) : WC P w0 S0 n c Q F A :=
  ⟨fun a w ha hs => by obtain ⟨x, hx⟩ := hs.exH ht; exact (kk x).go a w ha hx⟩
theorem WE.exH {e : Exit} (ht : Take (.ex f) A r) (kk : ∀ a, WE w0 S0 n Q e F (f a :: r)) : WE w0 S0 n Q e F A :=
  ⟨fun a w ha hs => by obtain ⟨x, hx⟩ := hs.exH ht; exact (kk x).go a w ha hx⟩
theorem St.inEx {w : World} (a : α) (h : St w0 S0 (f a :: r) w) : St w0 S0 (.ex f :: r) w :=
  h.mono fun S w hs => star_mono hs (fun _ h => ⟨a, h⟩) fun _ h => h
theorem St.inPure {w : World} (hp : φ) (h : St w0 S0 r w) : St w0 S0 (.pure φ :: r) w :=
  h.mono fun S w hs => ⟨fun _ => False, S, fun b => by simp, fun _ h => h.elim, ⟨fun _ h => h, hp⟩, hs⟩
theorem Sees.ex {w : World} {S : BSet} (h : Sees w S (.ex f)) : ∃ a, Sees w S (f a) := by
  obtain ⟨R, ⟨a, h1⟩, h2⟩ := h
  exact ⟨a, R, h1, h2⟩
theorem Sees.isPure {w : World} {S : BSet} (h : Sees w S (.pure φ)) : φ := by
  obtain ⟨R, h1, _⟩ := h; exact h1.2
/-- One of a bundle comes out; another goes back in its place. -/
theorem WL.outL {L' : List HP} {z : HP} (ht : Take (sepL L) A r) (hz : Take z L L') (kk : WL P w0 S0 n ops Q rest F (z :: sepL L' :: r)) : WL P w0 S0 n ops Q rest F A := kk.conv fun _ hs => St.out ht hz hs
theorem St.backL {w : World} {L' : List HP} {z : HP} {A1 : List HP} (h1 : Take z A A1) (h2 : Take (sepL L') A1 r) (hz : Take z L L') (h : St w0 S0 A w) : St w0 S0 (sepL L :: r) w :=
  h.mono fun S w hs => star_mono (star_assoc' (star_mono (h1.star hs) (fun _ h => h) fun _ h => h2.star h)) (fun _ h => hz.unstar h) fun _ h => h
theorem WL.backL {L' : List HP} {z : HP} {A1 : List HP} (h1 : Take z A A1) (h2 : Take (sepL L') A1 r) (hz : Take z L L') (kk : WL P w0 S0 n ops Q rest F (sepL L :: r)) : WL P w0 S0 n ops Q rest F A := kk.conv fun _ hs => St.backL h1 h2 hz hs
theorem WE.backL {e : Exit} {L' : List HP} {z : HP} {A1 : List HP} (h1 : Take z A A1) (h2 : Take (sepL L') A1 r) (hz : Take z L L') (kk : WE w0 S0 n Q e F (sepL L :: r)) : WE w0 S0 n Q e F A := kk.conv fun _ hs => St.backL h1 h2 hz hs
theorem EvW.peqNN {dd : Option Tmp} {T t e ty : TypeId} {pos : String} {af : Array Edge} {g : Option (Nat × Bool)} {x y : Operand} (hx : ev F x = some (.pointer none)) (hy : ev F y = some (.pointer none)) (hu : P.underlying t = some (.pointer e)) : EvW P w0 S0 n F A ⟨dd, .binOp .eql t x y ty, T, pos, af, g⟩ (.bool true) :=
  .pure fun a' w ha _ => by
    have key : ∀ m, (Op.equalIn (m + 1) t (.pointer none) (.pointer none)).run P w = .ok true w := fun m => by simp [Op.equalIn, run_underlying hu]
    have : (Op.equal t (.pointer none) (.pointer none)).run P w = .ok true w := key 9999
    simp [execOp, ha.eval hx, ha.eval hy, eqGuard, binOp, this]
end
end Go.BK
namespace Go.BK
open Go.RowKit
section
variable {P : Program} {w0 : World} {S0 : BSet} {n : Nat} {F : Fr} {A A' r : List HP} {T : TypeId} {pos : String} {af : Array Edge} {v : Value} {dd : Option Tmp} {g : Option (Nat × Bool)}
theorem EffW.callTV {f : FuncId} {z : Operand} {caps : List Value} {args : List Operand} {ats : Array TypeId} {vals : List Value} {A' A1 A2 A3 : List HP} {R : Value → List HP → Prop} (hz : ev F z = some (.func (.func f) #[] caps.toArray)) (hargs : evs F args = some vals)
    (hcall : ∀ w, (callFunc f (vals ++ caps).toArray).run P w = .ok (.enter f (vals ++ caps).toArray) w) (ht : TakeL A1 A A2)
    (hspec : ∀ w S, (sepL A1).sat S w → (∀ B, Sees w0 S0 B → Sees w S B) → (∀ B r, Take B A2 r → Sees w S B) → Tri P f (vals ++ caps).toArray w S R)
    (hR : ∀ v' A', R v' A' → v' = v ∧ A' = A3) (hA : ∀ w, St w0 S0 (A3 ++ A2) w → St w0 S0 A' w) :
    EffW P w0 S0 n F A A' ⟨dd, .call ⟨.value z, args.toArray, ats⟩, T, pos, af, g⟩ v := by
  refine ⟨fun Q K a w ha hs hK => ?_⟩
  have hvals := evs_map ha args vals hargs
  obtain ⟨S, h1, h2, h3⟩ := hs
  obtain ⟨S1, S2, hu, hdis, h4, h5⟩ := ht.star h1
  have hsp := (hspec w S1 h4 (fun B hB => hB.down h2 h3 fun b hb => (hu b).2 (.inl hb)) (fun B r tB => by
    obtain ⟨S3, S4, hu', hd', h6, h7⟩ := tB.star h5
    exact ⟨S3, h6, fun b hb hb' => hdis b hb' ((hu' b).2 (.inl hb))⟩)).go
  have hrun : (execOp a.eval ⟨dd, .call ⟨.value z, args.toArray, ats⟩, T, pos, af, g⟩).run P w = .ok (.enter f (vals ++ caps).toArray) w := by
    have hc := hcall w
    have e2 : vals.toArray ++ caps.toArray = (vals ++ caps).toArray := by simp
    have e1 : (args.toArray.map a.eval) = vals.toArray := by simp [hvals]
    simp only [execOp, resolve, e1, ha.eval hz, Deferred.ofValue, Sem.run_bind, Sem.run_pure, Result.andThen, invoke, Array.empty_append, e2]
    exact hc
  unfold Oper.wp
  rw [hrun]
  refine hsp.mono ?_
  rintro e w' ⟨v', A', rfl, hRR, S', h6, h7, h8⟩
  obtain ⟨rfl, rfl⟩ := hR v' A' hRR
  refine hK w' (hA w' ?_)
  have hext : Ext S w w' := ⟨h7.os, h7.tape, h7.output, h7.size, fun b hb hnb => h7.keep b hb fun h => hnb ((hu b).2 (.inl h))⟩
  refine ⟨fun b => S' b ∨ S2 b, sepL_append ⟨S', S2, fun _ => Iff.rfl, fun b hb hb2 => ?_, h6, (sepL A2).loc h5 fun b hb => h7.keep b ((sepL A2).bnd h5 hb) fun h => hdis b h hb⟩, h2.step hext h3, fun b hb => ?_⟩
  · rcases h8 b hb with h | h
    · exact hdis b h hb2
    · have := (sepL A2).bnd h5 hb2; omega
  · rcases hb with hb | hb
    · rcases h8 b hb with h | h
      · exact h3 b ((hu b).2 (.inl h))
      · exact .inr (Nat.le_trans h2.size h)
    · exact h3 b ((hu b).2 (.inr hb))
end
end Go.BK
namespace Go.Proofs.Ytoaajdmacngnjaa
open Go.RowKit Go.BK
abbrev Txt := List UInt8
/-- A wire: whose it is, its mode, what is due, what is held. -/
structure Wr where
  p : Int
  mode : Int
  due : List Txt
  held : List Txt
instance : Inhabited Wr := ⟨⟨0, 0, [], []⟩⟩
def spoilF (s : Txt) : Txt := if s = [] then [] else s.set (s.length / 2) (s.getD (s.length / 2) 0 ^^^ 1)
theorem spoilF_len (s : Txt) : (spoilF s).length = s.length := by
  unfold spoilF
  split
  · rename_i h; rw [h]
  · exact List.length_set
theorem xor8W (x y : UInt8) : IntKind.u8.wrap ↑(BitVec.ofInt IntKind.u8.bits (x.toNat : Int) ^^^ BitVec.ofInt IntKind.u8.bits (y.toNat : Int)).toNat = ((x ^^^ y).toNat : Int) := by
  show IntKind.u8.wrap ↑(BitVec.ofInt 8 (x.toNat : Int) ^^^ BitVec.ofInt 8 (y.toNat : Int)).toNat = _
  have hx := x.toNat_lt
  have hy := y.toNat_lt
  rw [BitVec.ofInt_natCast, BitVec.ofInt_natCast, BitVec.toNat_xor, BitVec.toNat_ofNat, BitVec.toNat_ofNat, Nat.mod_eq_of_lt hx, Nat.mod_eq_of_lt hy, UInt8.toNat_xor]
  have : x.toNat ^^^ y.toNat < 2 ^ 8 := Nat.xor_lt_two_pow hx hy
  exact wrap_in IntKind.u8 (by simp only [IntKind.min, IntKind.max, IntKind.signed, IntKind.bits, Bool.false_eq_true, ↓reduceIte]; omega)
theorem spoilt_spec (s : Txt) (w : World) (S : BSet) (hS : (sepL []).sat S w) (hs : s.length ≤ 140737488355328) :
    Tri Try.prog 31 #[str s] w S fun u A => u = str (spoilF s) ∧ A = [] := by
  refine Tri.enter (l := [str s]) Try.func31 rfl Try.ntmps31 rfl [(0, str s)] (subA rfl) hS ?_
  by_cases h0 : s = []
  · subst h0
    repeat first
      | (apply WL.q; exact rfl; exact rfl; exact rfl; (first | (apply EvW.move; exact rfl) | (apply EvW.assign; exact rfl) | (apply EvW.load; exact rfl; exact ScalC.eq; (focus ((repeat constructor); done)); exact rfl) | (apply EvW.ldSeen; exact rfl; exact ScalC.eq; assumption; (first | exact rfl | assumption)) | (apply EvW.ldFld; exact rfl; exact ScalC.eq; assumption; exact fun _ => rfl; omega; exact rfl; exact inferInstance) | (apply EvW.lenL; exact rfl; exact UndC.eq) | (apply EvW.arN; exact rfl; exact rfl; exact rfl; (constructor <;> simp only [IntKind.min, IntKind.max, IntKind.signed, IntKind.bits, ↓reduceIte, Bool.false_eq_true] <;> omega)) | (apply EvW.ar; exact rfl; exact rfl; exact rfl) | (apply EvW.seqS; exact rfl; exact rfl) | (apply EvW.seq; exact rfl; exact rfl) | (apply EvW.strRow; exact rfl; exact UndC.eq; exact UndC.eq; exact UndC.eq; assumption) | (apply EvW.strOwn; exact rfl; exact UndC.eq; exact UndC.eq; exact UndC.eq; (focus ((repeat constructor); done))) | (apply EvW.ldByt; exact rfl; exact ScalC.eq; assumption; omega) | (apply EvW.ldBytOwn; exact rfl; exact ScalC.eq; (focus ((repeat constructor); done)); omega) | (apply EvW.lenRow; exact rfl; exact UndC.eq; assumption) | (apply EvW.lenOwn; exact rfl; exact UndC.eq; (focus ((repeat constructor); done))) | (apply EvW.idxRow; exact rfl; exact rfl; exact UndC.eq; exact SzC.eq; assumption; omega; omega) | (apply EvW.idxOwn; exact rfl; exact rfl; exact UndC.eq; exact SzC.eq; (focus ((repeat constructor); done)); omega; omega) | (apply EvW.quoP; exact rfl; exact rfl; omega; omega; (first | omega | exact Int.le_trans (by omega) (of_decide_eq_true rfl : (9223372036854775807 : Int) ≤ _) | (simp only [IntKind.max, IntKind.signed, IntKind.bits, ↓reduceIte, Bool.false_eq_true]; omega))) | (apply EvW.quo; exact rfl; exact rfl; omega) | (apply EvW.ldFldOwn; exact rfl; exact ScalC.eq; (focus ((repeat constructor); done)); exact fun _ => rfl; omega; exact rfl; exact inferInstance)))
      | refine WC.seq ?_ | refine WC.region ?_ | refine WL.nil ?_ | refine WE.next ?_ | refine WC.skip ?_ | refine WC.exit ?_ | refine WE.pass ?_ | refine WE.hit ?_ | refine WE.miss rfl ?_ | refine WE.out ?_ | refine WC.condT rfl ?_ | refine WC.condF rfl ?_ | refine WC.ret ?_ | refine WE.passRet ?_ | refine WE.outRet ?_ | refine WL.wanted rfl rfl rfl ?_ | (apply WL.store; exact rfl; exact rfl; (first | assumption | exact rfl); exact SzC.eq; (first | assumption | exact rfl); (focus ((repeat constructor); done)))
    refine WE.bare ?_
    refine WE.ret1 rfl rfl ?_
    exact ⟨rfl, rfl⟩
  have hl : 0 < s.length := List.length_pos_iff.2 h0
  have hd : decide (s = []) = false := decide_eq_false h0
  repeat first
    | (apply WL.q; exact rfl; exact rfl; exact rfl; (first | (apply EvW.move; exact rfl) | (apply EvW.assign; exact rfl) | (apply EvW.load; exact rfl; exact ScalC.eq; (focus ((repeat constructor); done)); exact rfl) | (apply EvW.ldSeen; exact rfl; exact ScalC.eq; assumption; (first | exact rfl | assumption)) | (apply EvW.ldFld; exact rfl; exact ScalC.eq; assumption; exact fun _ => rfl; omega; exact rfl; exact inferInstance) | (apply EvW.lenL; exact rfl; exact UndC.eq) | (apply EvW.arN; exact rfl; exact rfl; exact rfl; (constructor <;> simp only [IntKind.min, IntKind.max, IntKind.signed, IntKind.bits, ↓reduceIte, Bool.false_eq_true] <;> omega)) | (apply EvW.ar; exact rfl; exact rfl; exact rfl) | (apply EvW.seqS; exact rfl; exact rfl) | (apply EvW.seq; exact rfl; exact rfl) | (apply EvW.strRow; exact rfl; exact UndC.eq; exact UndC.eq; exact UndC.eq; assumption) | (apply EvW.strOwn; exact rfl; exact UndC.eq; exact UndC.eq; exact UndC.eq; (focus ((repeat constructor); done))) | (apply EvW.ldByt; exact rfl; exact ScalC.eq; assumption; omega) | (apply EvW.ldBytOwn; exact rfl; exact ScalC.eq; (focus ((repeat constructor); done)); omega) | (apply EvW.lenRow; exact rfl; exact UndC.eq; assumption) | (apply EvW.lenOwn; exact rfl; exact UndC.eq; (focus ((repeat constructor); done))) | (apply EvW.idxRow; exact rfl; exact rfl; exact UndC.eq; exact SzC.eq; assumption; omega; omega) | (apply EvW.idxOwn; exact rfl; exact rfl; exact UndC.eq; exact SzC.eq; (focus ((repeat constructor); done)); omega; omega) | (apply EvW.quoP; exact rfl; exact rfl; omega; omega; (first | omega | exact Int.le_trans (by omega) (of_decide_eq_true rfl : (9223372036854775807 : Int) ≤ _) | (simp only [IntKind.max, IntKind.signed, IntKind.bits, ↓reduceIte, Bool.false_eq_true]; omega))) | (apply EvW.quo; exact rfl; exact rfl; omega) | (apply EvW.ldFldOwn; exact rfl; exact ScalC.eq; (focus ((repeat constructor); done)); exact fun _ => rfl; omega; exact rfl; exact inferInstance)))
    | refine WC.seq ?_ | refine WC.region ?_ | refine WL.nil ?_ | refine WE.next ?_ | refine WC.skip ?_ | refine WC.exit ?_ | refine WE.pass ?_ | refine WE.hit ?_ | refine WE.miss rfl ?_ | refine WE.out ?_ | refine WC.condT rfl ?_ | refine WC.condF rfl ?_ | refine WC.ret ?_ | refine WE.passRet ?_ | refine WE.outRet ?_ | refine WL.wanted rfl rfl rfl ?_ | (apply WL.store; exact rfl; exact rfl; (first | assumption | exact rfl); exact SzC.eq; (first | assumption | exact rfl); (focus ((repeat constructor); done)))
  rw [hd]
  repeat first
    | (apply WL.q; exact rfl; exact rfl; exact rfl; (first | (apply EvW.move; exact rfl) | (apply EvW.assign; exact rfl) | (apply EvW.load; exact rfl; exact ScalC.eq; (focus ((repeat constructor); done)); exact rfl) | (apply EvW.ldSeen; exact rfl; exact ScalC.eq; assumption; (first | exact rfl | assumption)) | (apply EvW.ldFld; exact rfl; exact ScalC.eq; assumption; exact fun _ => rfl; omega; exact rfl; exact inferInstance) | (apply EvW.lenL; exact rfl; exact UndC.eq) | (apply EvW.arN; exact rfl; exact rfl; exact rfl; (constructor <;> simp only [IntKind.min, IntKind.max, IntKind.signed, IntKind.bits, ↓reduceIte, Bool.false_eq_true] <;> omega)) | (apply EvW.ar; exact rfl; exact rfl; exact rfl) | (apply EvW.seqS; exact rfl; exact rfl) | (apply EvW.seq; exact rfl; exact rfl) | (apply EvW.strRow; exact rfl; exact UndC.eq; exact UndC.eq; exact UndC.eq; assumption) | (apply EvW.strOwn; exact rfl; exact UndC.eq; exact UndC.eq; exact UndC.eq; (focus ((repeat constructor); done))) | (apply EvW.ldByt; exact rfl; exact ScalC.eq; assumption; omega) | (apply EvW.ldBytOwn; exact rfl; exact ScalC.eq; (focus ((repeat constructor); done)); omega) | (apply EvW.lenRow; exact rfl; exact UndC.eq; assumption) | (apply EvW.lenOwn; exact rfl; exact UndC.eq; (focus ((repeat constructor); done))) | (apply EvW.idxRow; exact rfl; exact rfl; exact UndC.eq; exact SzC.eq; assumption; omega; omega) | (apply EvW.idxOwn; exact rfl; exact rfl; exact UndC.eq; exact SzC.eq; (focus ((repeat constructor); done)); omega; omega) | (apply EvW.quoP; exact rfl; exact rfl; omega; omega; (first | omega | exact Int.le_trans (by omega) (of_decide_eq_true rfl : (9223372036854775807 : Int) ≤ _) | (simp only [IntKind.max, IntKind.signed, IntKind.bits, ↓reduceIte, Bool.false_eq_true]; omega))) | (apply EvW.quo; exact rfl; exact rfl; omega) | (apply EvW.ldFldOwn; exact rfl; exact ScalC.eq; (focus ((repeat constructor); done)); exact fun _ => rfl; omega; exact rfl; exact inferInstance)))
    | refine WC.seq ?_ | refine WC.region ?_ | refine WL.nil ?_ | refine WE.next ?_ | refine WC.skip ?_ | refine WC.exit ?_ | refine WE.pass ?_ | refine WE.hit ?_ | refine WE.miss rfl ?_ | refine WE.out ?_ | refine WC.condT rfl ?_ | refine WC.condF rfl ?_ | refine WC.ret ?_ | refine WE.passRet ?_ | refine WE.outRet ?_ | refine WL.wanted rfl rfl rfl ?_ | (apply WL.store; exact rfl; exact rfl; (first | assumption | exact rfl); exact SzC.eq; (first | assumption | exact rfl); (focus ((repeat constructor); done)))
  try refine WL.wanted rfl rfl rfl ?_
  (apply WL.bytesOf; exact rfl; exact rfl; exact UndC.eq; exact UndC.eq; exact UndC.eq; intro v)
  repeat first
    | (apply WL.q; exact rfl; exact rfl; exact rfl; (first | (apply EvW.move; exact rfl) | (apply EvW.assign; exact rfl) | (apply EvW.load; exact rfl; exact ScalC.eq; (focus ((repeat constructor); done)); exact rfl) | (apply EvW.ldSeen; exact rfl; exact ScalC.eq; assumption; (first | exact rfl | assumption)) | (apply EvW.ldFld; exact rfl; exact ScalC.eq; assumption; exact fun _ => rfl; omega; exact rfl; exact inferInstance) | (apply EvW.lenL; exact rfl; exact UndC.eq) | (apply EvW.arN; exact rfl; exact rfl; exact rfl; (constructor <;> simp only [IntKind.min, IntKind.max, IntKind.signed, IntKind.bits, ↓reduceIte, Bool.false_eq_true] <;> omega)) | (apply EvW.ar; exact rfl; exact rfl; exact rfl) | (apply EvW.seqS; exact rfl; exact rfl) | (apply EvW.seq; exact rfl; exact rfl) | (apply EvW.strRow; exact rfl; exact UndC.eq; exact UndC.eq; exact UndC.eq; assumption) | (apply EvW.strOwn; exact rfl; exact UndC.eq; exact UndC.eq; exact UndC.eq; (focus ((repeat constructor); done))) | (apply EvW.ldByt; exact rfl; exact ScalC.eq; assumption; omega) | (apply EvW.ldBytOwn; exact rfl; exact ScalC.eq; (focus ((repeat constructor); done)); omega) | (apply EvW.lenRow; exact rfl; exact UndC.eq; assumption) | (apply EvW.lenOwn; exact rfl; exact UndC.eq; (focus ((repeat constructor); done))) | (apply EvW.idxRow; exact rfl; exact rfl; exact UndC.eq; exact SzC.eq; assumption; omega; omega) | (apply EvW.idxOwn; exact rfl; exact rfl; exact UndC.eq; exact SzC.eq; (focus ((repeat constructor); done)); omega; omega) | (apply EvW.quoP; exact rfl; exact rfl; omega; omega; (first | omega | exact Int.le_trans (by omega) (of_decide_eq_true rfl : (9223372036854775807 : Int) ≤ _) | (simp only [IntKind.max, IntKind.signed, IntKind.bits, ↓reduceIte, Bool.false_eq_true]; omega))) | (apply EvW.quo; exact rfl; exact rfl; omega) | (apply EvW.ldFldOwn; exact rfl; exact ScalC.eq; (focus ((repeat constructor); done)); exact fun _ => rfl; omega; exact rfl; exact inferInstance)))
    | refine WC.seq ?_ | refine WC.region ?_ | refine WL.nil ?_ | refine WE.next ?_ | refine WC.skip ?_ | refine WC.exit ?_ | refine WE.pass ?_ | refine WE.hit ?_ | refine WE.miss rfl ?_ | refine WE.out ?_ | refine WC.condT rfl ?_ | refine WC.condF rfl ?_ | refine WC.ret ?_ | refine WE.passRet ?_ | refine WE.outRet ?_ | refine WL.wanted rfl rfl rfl ?_ | (apply WL.store; exact rfl; exact rfl; (first | assumption | exact rfl); exact SzC.eq; (first | assumption | exact rfl); (focus ((repeat constructor); done)))
  (apply WL.stOwn; exact rfl; exact rfl; exact rfl; exact SzC.eq; exact rfl; exact rfl; (focus ((repeat constructor); done)))
  · rw [List.length_map, List.length_singleton]; omega
  · rw [over_one (by rw [List.length_map]; omega), show ((s.length : Int) / 2).toNat * 1 + 0 = s.length / 2 by omega, show ((s.length : Int) / 2).toNat = s.length / 2 by omega, show (1 : Int) = ((1 : UInt8).toNat : Int) from rfl, xor8W, show Value.int .u8 ((s.getD (s.length / 2) 0 ^^^ 1).toNat : Int) = byt (s.getD (s.length / 2) 0 ^^^ 1) from rfl, ← List.map_set]; exact .head
  have e : s.set (s.length / 2) (s.getD (s.length / 2) 0 ^^^ 1) = spoilF s := by unfold spoilF; rw [if_neg h0]
  rw [e]
  have hl2 := spoilF_len s
  rw [← hl2]
  repeat first
    | (apply WL.q; exact rfl; exact rfl; exact rfl; (first | (apply EvW.move; exact rfl) | (apply EvW.assign; exact rfl) | (apply EvW.load; exact rfl; exact ScalC.eq; (focus ((repeat constructor); done)); exact rfl) | (apply EvW.ldSeen; exact rfl; exact ScalC.eq; assumption; (first | exact rfl | assumption)) | (apply EvW.ldFld; exact rfl; exact ScalC.eq; assumption; exact fun _ => rfl; omega; exact rfl; exact inferInstance) | (apply EvW.lenL; exact rfl; exact UndC.eq) | (apply EvW.arN; exact rfl; exact rfl; exact rfl; (constructor <;> simp only [IntKind.min, IntKind.max, IntKind.signed, IntKind.bits, ↓reduceIte, Bool.false_eq_true] <;> omega)) | (apply EvW.ar; exact rfl; exact rfl; exact rfl) | (apply EvW.seqS; exact rfl; exact rfl) | (apply EvW.seq; exact rfl; exact rfl) | (apply EvW.strRow; exact rfl; exact UndC.eq; exact UndC.eq; exact UndC.eq; assumption) | (apply EvW.strOwn; exact rfl; exact UndC.eq; exact UndC.eq; exact UndC.eq; (focus ((repeat constructor); done))) | (apply EvW.ldByt; exact rfl; exact ScalC.eq; assumption; omega) | (apply EvW.ldBytOwn; exact rfl; exact ScalC.eq; (focus ((repeat constructor); done)); omega) | (apply EvW.lenRow; exact rfl; exact UndC.eq; assumption) | (apply EvW.lenOwn; exact rfl; exact UndC.eq; (focus ((repeat constructor); done))) | (apply EvW.idxRow; exact rfl; exact rfl; exact UndC.eq; exact SzC.eq; assumption; omega; omega) | (apply EvW.idxOwn; exact rfl; exact rfl; exact UndC.eq; exact SzC.eq; (focus ((repeat constructor); done)); omega; omega) | (apply EvW.quoP; exact rfl; exact rfl; omega; omega; (first | omega | exact Int.le_trans (by omega) (of_decide_eq_true rfl : (9223372036854775807 : Int) ≤ _) | (simp only [IntKind.max, IntKind.signed, IntKind.bits, ↓reduceIte, Bool.false_eq_true]; omega))) | (apply EvW.quo; exact rfl; exact rfl; omega) | (apply EvW.ldFldOwn; exact rfl; exact ScalC.eq; (focus ((repeat constructor); done)); exact fun _ => rfl; omega; exact rfl; exact inferInstance)))
    | refine WC.seq ?_ | refine WC.region ?_ | refine WL.nil ?_ | refine WE.next ?_ | refine WC.skip ?_ | refine WC.exit ?_ | refine WE.pass ?_ | refine WE.hit ?_ | refine WE.miss rfl ?_ | refine WE.out ?_ | refine WC.condT rfl ?_ | refine WC.condF rfl ?_ | refine WC.ret ?_ | refine WE.passRet ?_ | refine WE.outRet ?_ | refine WL.wanted rfl rfl rfl ?_ | (apply WL.store; exact rfl; exact rfl; (first | assumption | exact rfl); exact SzC.eq; (first | assumption | exact rfl); (focus ((repeat constructor); done)))
  refine WE.bare ?_
  refine WE.ret1 rfl rfl ?_
  exact ⟨rfl, rfl⟩
/-- A list of which the first k and the last k have changed places. -/
def revK (l : List Txt) (k : Nat) : List Txt := (List.range l.length).map fun t => if t < k ∨ l.length - k ≤ t then l.getD (l.length - 1 - t) [] else l.getD t []
theorem revK_len (l : List Txt) (k : Nat) : (revK l k).length = l.length := by simp [revK]
theorem revK_at (l : List Txt) (k t : Nat) (h : t < l.length) : (revK l k).getD t [] = if t < k ∨ l.length - k ≤ t then l.getD (l.length - 1 - t) [] else l.getD t [] := by
  unfold revK
  rw [List.getD_eq_getElem?_getD, List.getElem?_map, List.getElem?_range h]; rfl
theorem revK_0 (l : List Txt) : revK l 0 = l := by
  apply List.ext_getElem (revK_len l 0)
  intro t h1 h2
  have := revK_at l 0 t h2
  rw [List.getD_eq_getElem?_getD, List.getElem?_eq_getElem h1] at this
  rw [if_neg (by omega), List.getD_eq_getElem?_getD, List.getElem?_eq_getElem h2] at this
  exact this
theorem revK_all (l : List Txt) (k : Nat) (h : l.length ≤ 2 * k + 1) : revK l k = l.reverse := by
  apply List.ext_getElem (by rw [revK_len, List.length_reverse])
  intro t h1 h2
  have h3 : t < l.length := by rw [revK_len] at h1; exact h1
  have := revK_at l k t h3
  rw [List.getD_eq_getElem?_getD, List.getElem?_eq_getElem h1] at this
  rw [List.getElem_reverse]
  by_cases hk : t < k ∨ l.length - k ≤ t
  · rw [if_pos hk, List.getD_eq_getElem?_getD, List.getElem?_eq_getElem (show l.length - 1 - t < l.length by omega)] at this
    exact this
  · rw [if_neg hk, List.getD_eq_getElem?_getD, List.getElem?_eq_getElem h3] at this
    have e : l.length - 1 - t = t := by omega
    simp only [e]
    exact this
theorem revK_step (l : List Txt) (k : Nat) (h : 2 * k + 1 < l.length) : ((revK l k).set k ((revK l k).getD (l.length - 1 - k) [])).set (l.length - 1 - k) ((revK l k).getD k []) = revK l (k + 1) := by
  rw [revK_at l k k (by omega), if_neg (by omega), revK_at l k (l.length - 1 - k) (by omega), if_neg (by omega)]
  apply List.ext_getElem (by simp [revK_len])
  intro t h1 h2
  have h3 : t < l.length := by rw [revK_len] at h2; exact h2
  have e2 := revK_at l (k + 1) t h3
  rw [List.getD_eq_getElem?_getD, List.getElem?_eq_getElem h2] at e2
  have e1 := revK_at l k t h3
  rw [List.getD_eq_getElem?_getD, List.getElem?_eq_getElem (by rw [revK_len]; exact h3)] at e1
  rw [List.getElem_set, List.getElem_set]
  simp only [Option.getD_some] at e1 e2
  rw [e2]
  by_cases a : l.length - 1 - k = t
  · rw [if_pos a, if_pos (by omega)]; congr 1; omega
  · rw [if_neg a]
    by_cases b : k = t
    · rw [if_pos b, if_pos (by omega)]; congr 1; omega
    · rw [if_neg b, e1]
      by_cases c : t < k ∨ l.length - k ≤ t
      · rw [if_pos c, if_pos (by omega)]
      · rw [if_neg c, if_neg (by omega)]
theorem reverse_spec (v : Value) (l : List Txt) (w : World) (S : BSet) (hS : (sepL [.own 9 1 (v) (l).length ((l).map str)]).sat S w) (hn : l.length ≤ 4398046511104) :
    Tri Try.prog 30 #[v] w S fun u A => u = .tuple #[] ∧ A = [.own 9 1 (v) (l.reverse).length ((l.reverse).map str)] := by
  refine Tri.enter (l := [v]) Try.func30 rfl Try.ntmps30 rfl [(0, v)] (subA rfl) hS ?_
  by_cases hz : l.length ≤ 1
  · have e : l.reverse = l := by
      match l, hz with
      | [], _ => rfl
      | [a], _ => rfl
    rw [e]
    repeat first
      | (apply WL.q; exact rfl; exact rfl; exact rfl; (first | (apply EvW.move; exact rfl) | (apply EvW.assign; exact rfl) | (apply EvW.load; exact rfl; exact ScalC.eq; (focus ((repeat constructor); done)); exact rfl) | (apply EvW.ldSeen; exact rfl; exact ScalC.eq; assumption; (first | exact rfl | assumption)) | (apply EvW.ldFld; exact rfl; exact ScalC.eq; assumption; exact fun _ => rfl; omega; exact rfl; exact inferInstance) | (apply EvW.lenL; exact rfl; exact UndC.eq) | (apply EvW.cmpT; exact rfl; exact rfl; exact rfl; omega) | (apply EvW.cmpF; exact rfl; exact rfl; exact rfl; omega) | (apply EvW.cmp; exact rfl; exact rfl; exact rfl) | (apply EvW.arN; exact rfl; exact rfl; exact rfl; refine i64_in ?_ ?_ <;> omega) | (apply EvW.ar; exact rfl; exact rfl; exact rfl) | (apply EvW.ldStr; exact rfl; exact ScalC.eq; assumption; omega) | (apply EvW.ldStrOwn; exact rfl; exact ScalC.eq; (focus ((repeat constructor); done)); omega) | (apply EvW.lenRow; exact rfl; exact UndC.eq; assumption) | (apply EvW.lenOwn; exact rfl; exact UndC.eq; (focus ((repeat constructor); done))) | (apply EvW.idxRow; exact rfl; exact rfl; exact UndC.eq; exact SzC.eq; assumption; omega; omega) | (apply EvW.idxOwn; exact rfl; exact rfl; exact UndC.eq; exact SzC.eq; (focus ((repeat constructor); done)); omega; omega) | (apply EvW.ldFldOwn; exact rfl; exact ScalC.eq; (focus ((repeat constructor); done)); exact fun _ => rfl; omega; exact rfl; exact inferInstance)))
      | refine WC.seq ?_ | refine WC.region ?_ | refine WL.nil ?_ | refine WE.next ?_ | refine WC.block ?_ | refine WC.skip ?_ | refine WC.exit ?_ | refine WE.pass ?_ | refine WE.hit ?_ | refine WE.miss rfl ?_ | refine WE.out ?_ | refine WC.condT rfl ?_ | refine WC.condF rfl ?_ | refine WC.ret ?_ | refine WE.passRet ?_ | refine WE.outRet ?_ | refine WL.wanted rfl rfl rfl ?_ | (apply WL.store; exact rfl; exact rfl; (first | assumption | exact rfl); exact SzC.eq; (first | assumption | exact rfl); (focus ((repeat constructor); done)))
    refine WC.loopK (σ := Nat) [0] (fun s => [(2, i64 0), (3, i64 ((l.length : Int) - 1))]) (fun s => [.own 9 1 (v) (l).length ((l).map str)]) (fun s => s = 0) (fun s => s) 0 (by (focus ((repeat (first | exact Pick.nil | (apply Pick.cons; exact rfl))); done))) (by (focus ((repeat (first | exact trivial | (refine ⟨rfl, ?_⟩))); done))) (fun _ h => h.keep (by repeat constructor)) rfl (fun s hs => ?_)
    obtain ⟨k, rfl⟩ : ∃ q, q = s := ⟨s, rfl⟩
    simp only [List.cons_append, List.nil_append] at hs ⊢
    repeat first
      | (apply WL.q; exact rfl; exact rfl; exact rfl; (first | (apply EvW.move; exact rfl) | (apply EvW.assign; exact rfl) | (apply EvW.load; exact rfl; exact ScalC.eq; (focus ((repeat constructor); done)); exact rfl) | (apply EvW.ldSeen; exact rfl; exact ScalC.eq; assumption; (first | exact rfl | assumption)) | (apply EvW.ldFld; exact rfl; exact ScalC.eq; assumption; exact fun _ => rfl; omega; exact rfl; exact inferInstance) | (apply EvW.lenL; exact rfl; exact UndC.eq) | (apply EvW.cmpT; exact rfl; exact rfl; exact rfl; omega) | (apply EvW.cmpF; exact rfl; exact rfl; exact rfl; omega) | (apply EvW.cmp; exact rfl; exact rfl; exact rfl) | (apply EvW.arN; exact rfl; exact rfl; exact rfl; refine i64_in ?_ ?_ <;> omega) | (apply EvW.ar; exact rfl; exact rfl; exact rfl) | (apply EvW.ldStr; exact rfl; exact ScalC.eq; assumption; omega) | (apply EvW.ldStrOwn; exact rfl; exact ScalC.eq; (focus ((repeat constructor); done)); omega) | (apply EvW.lenRow; exact rfl; exact UndC.eq; assumption) | (apply EvW.lenOwn; exact rfl; exact UndC.eq; (focus ((repeat constructor); done))) | (apply EvW.idxRow; exact rfl; exact rfl; exact UndC.eq; exact SzC.eq; assumption; omega; omega) | (apply EvW.idxOwn; exact rfl; exact rfl; exact UndC.eq; exact SzC.eq; (focus ((repeat constructor); done)); omega; omega) | (apply EvW.ldFldOwn; exact rfl; exact ScalC.eq; (focus ((repeat constructor); done)); exact fun _ => rfl; omega; exact rfl; exact inferInstance)))
      | refine WC.seq ?_ | refine WC.region ?_ | refine WL.nil ?_ | refine WE.next ?_ | refine WC.block ?_ | refine WC.skip ?_ | refine WC.exit ?_ | refine WE.pass ?_ | refine WE.hit ?_ | refine WE.miss rfl ?_ | refine WE.out ?_ | refine WC.condT rfl ?_ | refine WC.condF rfl ?_ | refine WC.ret ?_ | refine WE.passRet ?_ | refine WE.outRet ?_ | refine WL.wanted rfl rfl rfl ?_ | (apply WL.store; exact rfl; exact rfl; (first | assumption | exact rfl); exact SzC.eq; (first | assumption | exact rfl); (focus ((repeat constructor); done)))
    refine WE.keep (xs := [.own 9 1 (v) (l).length ((l).map str)]) (by repeat constructor) ?_
    first | refine WE.end0 rfl ?_ | refine WE.ret0 rfl ?_
    exact ⟨rfl, rfl⟩
  repeat first
    | (apply WL.q; exact rfl; exact rfl; exact rfl; (first | (apply EvW.move; exact rfl) | (apply EvW.assign; exact rfl) | (apply EvW.load; exact rfl; exact ScalC.eq; (focus ((repeat constructor); done)); exact rfl) | (apply EvW.ldSeen; exact rfl; exact ScalC.eq; assumption; (first | exact rfl | assumption)) | (apply EvW.ldFld; exact rfl; exact ScalC.eq; assumption; exact fun _ => rfl; omega; exact rfl; exact inferInstance) | (apply EvW.lenL; exact rfl; exact UndC.eq) | (apply EvW.cmpT; exact rfl; exact rfl; exact rfl; omega) | (apply EvW.cmpF; exact rfl; exact rfl; exact rfl; omega) | (apply EvW.cmp; exact rfl; exact rfl; exact rfl) | (apply EvW.arN; exact rfl; exact rfl; exact rfl; refine i64_in ?_ ?_ <;> omega) | (apply EvW.ar; exact rfl; exact rfl; exact rfl) | (apply EvW.ldStr; exact rfl; exact ScalC.eq; assumption; omega) | (apply EvW.ldStrOwn; exact rfl; exact ScalC.eq; (focus ((repeat constructor); done)); omega) | (apply EvW.lenRow; exact rfl; exact UndC.eq; assumption) | (apply EvW.lenOwn; exact rfl; exact UndC.eq; (focus ((repeat constructor); done))) | (apply EvW.idxRow; exact rfl; exact rfl; exact UndC.eq; exact SzC.eq; assumption; omega; omega) | (apply EvW.idxOwn; exact rfl; exact rfl; exact UndC.eq; exact SzC.eq; (focus ((repeat constructor); done)); omega; omega) | (apply EvW.ldFldOwn; exact rfl; exact ScalC.eq; (focus ((repeat constructor); done)); exact fun _ => rfl; omega; exact rfl; exact inferInstance)))
    | refine WC.seq ?_ | refine WC.region ?_ | refine WL.nil ?_ | refine WE.next ?_ | refine WC.block ?_ | refine WC.skip ?_ | refine WC.exit ?_ | refine WE.pass ?_ | refine WE.hit ?_ | refine WE.miss rfl ?_ | refine WE.out ?_ | refine WC.condT rfl ?_ | refine WC.condF rfl ?_ | refine WC.ret ?_ | refine WE.passRet ?_ | refine WE.outRet ?_ | refine WL.wanted rfl rfl rfl ?_ | (apply WL.store; exact rfl; exact rfl; (first | assumption | exact rfl); exact SzC.eq; (first | assumption | exact rfl); (focus ((repeat constructor); done)))
  refine WC.keep (xs := [.own 9 1 (v) ((revK l 0)).length (((revK l 0)).map str)]) (by rw [revK_0]; (focus ((repeat constructor); done))) ?_
  refine WC.loopK (σ := Nat × Int) [0] (fun s => [(2, i64 (s.1 : Int)), (3, i64 s.2)]) (fun s => [.own 9 1 (v) ((revK l s.1)).length (((revK l s.1)).map str)]) (fun s => 2 * s.1 ≤ l.length ∧ s.2 = (l.length : Int) - 1 - s.1) (fun s => l.length - s.1) (0, (l.length : Int) - 1) (by (focus ((repeat (first | exact Pick.nil | (apply Pick.cons; exact rfl))); done))) (by (focus ((repeat (first | exact trivial | (refine ⟨rfl, ?_⟩))); done))) (fun _ h => h.keep (by repeat constructor)) ⟨by omega, by simp⟩ (fun s hs => ?_)
  obtain ⟨k, j⟩ := s
  simp only [List.cons_append, List.nil_append] at hs ⊢
  obtain ⟨hs1, rfl⟩ := hs
  have hkl := revK_len l k
  have hkl2 : ((revK l k).set k ((revK l k).getD (l.length - 1 - k) [])).length = l.length := by rw [List.length_set, hkl]
  by_cases hlt : 2 * k + 1 < l.length
  · have e1 : (((l.length : Int) - 1 - k).toNat) = l.length - 1 - k := by omega
    repeat first
      | (apply WL.q; exact rfl; exact rfl; exact rfl; (first | (apply EvW.move; exact rfl) | (apply EvW.assign; exact rfl) | (apply EvW.load; exact rfl; exact ScalC.eq; (focus ((repeat constructor); done)); exact rfl) | (apply EvW.ldSeen; exact rfl; exact ScalC.eq; assumption; (first | exact rfl | assumption)) | (apply EvW.ldFld; exact rfl; exact ScalC.eq; assumption; exact fun _ => rfl; omega; exact rfl; exact inferInstance) | (apply EvW.lenL; exact rfl; exact UndC.eq) | (apply EvW.cmpT; exact rfl; exact rfl; exact rfl; omega) | (apply EvW.cmpF; exact rfl; exact rfl; exact rfl; omega) | (apply EvW.cmp; exact rfl; exact rfl; exact rfl) | (apply EvW.arN; exact rfl; exact rfl; exact rfl; refine i64_in ?_ ?_ <;> omega) | (apply EvW.ar; exact rfl; exact rfl; exact rfl) | (apply EvW.ldStr; exact rfl; exact ScalC.eq; assumption; omega) | (apply EvW.ldStrOwn; exact rfl; exact ScalC.eq; (focus ((repeat constructor); done)); omega) | (apply EvW.lenRow; exact rfl; exact UndC.eq; assumption) | (apply EvW.lenOwn; exact rfl; exact UndC.eq; (focus ((repeat constructor); done))) | (apply EvW.idxRow; exact rfl; exact rfl; exact UndC.eq; exact SzC.eq; assumption; omega; omega) | (apply EvW.idxOwn; exact rfl; exact rfl; exact UndC.eq; exact SzC.eq; (focus ((repeat constructor); done)); omega; omega) | (apply EvW.ldFldOwn; exact rfl; exact ScalC.eq; (focus ((repeat constructor); done)); exact fun _ => rfl; omega; exact rfl; exact inferInstance)))
      | refine WC.seq ?_ | refine WC.region ?_ | refine WL.nil ?_ | refine WE.next ?_ | refine WC.block ?_ | refine WC.skip ?_ | refine WC.exit ?_ | refine WE.pass ?_ | refine WE.hit ?_ | refine WE.miss rfl ?_ | refine WE.out ?_ | refine WC.condT rfl ?_ | refine WC.condF rfl ?_ | refine WC.ret ?_ | refine WE.passRet ?_ | refine WE.outRet ?_ | refine WL.wanted rfl rfl rfl ?_ | (apply WL.store; exact rfl; exact rfl; (first | assumption | exact rfl); exact SzC.eq; (first | assumption | exact rfl); (focus ((repeat constructor); done)))
    repeat refine WC.seq ?_
    refine WC.keep (xs := [.own 9 1 (v) ((revK l k)).length (((revK l k)).map str)]) (by repeat constructor) ?_
    apply WC.par _ (fun c : Ch => [.own 9 1 (v) ((revK l k)).length (((revK l k)).map str), .own 9 1 (v) (((revK l k).set k ((revK l k).getD (l.length - 1 - k) []))).length ((((revK l k).set k ((revK l k).getD (l.length - 1 - k) []))).map str), .own 9 1 (v) ((revK l (k + 1))).length (((revK l (k + 1))).map str)]) [none, some 13, some 15] [some 13, some 15, none] [] Try.mixed
    · (focus ((repeat (first | exact Restr.nil | (apply Restr.keep; exact rfl; exact rfl) | (apply Restr.drop; exact rfl))); done))
    · intro c; exact (by repeat constructor)
    · exact rfl
    · decide +kernel
    · decide +kernel
    · intro c
      (apply Par.quiet _ [true, false, false]; exact rfl; decide +kernel; exact rfl; intro R; refine ⟨_, (by repeat constructor), ?_⟩;
           (first | (apply EvW.move; exact rfl) | (apply EvW.assign; exact rfl) | (apply EvW.load; exact rfl; exact ScalC.eq; (focus ((repeat constructor); done)); exact rfl) | (apply EvW.ldSeen; exact rfl; exact ScalC.eq; assumption; (first | exact rfl | assumption)) | (apply EvW.ldFld; exact rfl; exact ScalC.eq; assumption; exact fun _ => rfl; omega; exact rfl; exact inferInstance) | (apply EvW.lenL; exact rfl; exact UndC.eq) | (apply EvW.cmpT; exact rfl; exact rfl; exact rfl; omega) | (apply EvW.cmpF; exact rfl; exact rfl; exact rfl; omega) | (apply EvW.cmp; exact rfl; exact rfl; exact rfl) | (apply EvW.arN; exact rfl; exact rfl; exact rfl; refine i64_in ?_ ?_ <;> omega) | (apply EvW.ar; exact rfl; exact rfl; exact rfl) | (apply EvW.ldStr; exact rfl; exact ScalC.eq; assumption; omega) | (apply EvW.ldStrOwn; exact rfl; exact ScalC.eq; (focus ((repeat constructor); done)); omega) | (apply EvW.lenRow; exact rfl; exact UndC.eq; assumption) | (apply EvW.lenOwn; exact rfl; exact UndC.eq; (focus ((repeat constructor); done))) | (apply EvW.idxRow; exact rfl; exact rfl; exact UndC.eq; exact SzC.eq; assumption; omega; omega) | (apply EvW.idxOwn; exact rfl; exact rfl; exact UndC.eq; exact SzC.eq; (focus ((repeat constructor); done)); omega; omega) | (apply EvW.ldFldOwn; exact rfl; exact ScalC.eq; (focus ((repeat constructor); done)); exact fun _ => rfl; omega; exact rfl; exact inferInstance)))
      (apply Par.quiet _ [true, false, false]; exact rfl; decide +kernel; exact rfl; intro R; refine ⟨_, (by repeat constructor), ?_⟩;
           (first | (apply EvW.move; exact rfl) | (apply EvW.assign; exact rfl) | (apply EvW.load; exact rfl; exact ScalC.eq; (focus ((repeat constructor); done)); exact rfl) | (apply EvW.ldSeen; exact rfl; exact ScalC.eq; assumption; (first | exact rfl | assumption)) | (apply EvW.ldFld; exact rfl; exact ScalC.eq; assumption; exact fun _ => rfl; omega; exact rfl; exact inferInstance) | (apply EvW.lenL; exact rfl; exact UndC.eq) | (apply EvW.cmpT; exact rfl; exact rfl; exact rfl; omega) | (apply EvW.cmpF; exact rfl; exact rfl; exact rfl; omega) | (apply EvW.cmp; exact rfl; exact rfl; exact rfl) | (apply EvW.arN; exact rfl; exact rfl; exact rfl; refine i64_in ?_ ?_ <;> omega) | (apply EvW.ar; exact rfl; exact rfl; exact rfl) | (apply EvW.ldStr; exact rfl; exact ScalC.eq; assumption; omega) | (apply EvW.ldStrOwn; exact rfl; exact ScalC.eq; (focus ((repeat constructor); done)); omega) | (apply EvW.lenRow; exact rfl; exact UndC.eq; assumption) | (apply EvW.lenOwn; exact rfl; exact UndC.eq; (focus ((repeat constructor); done))) | (apply EvW.idxRow; exact rfl; exact rfl; exact UndC.eq; exact SzC.eq; assumption; omega; omega) | (apply EvW.idxOwn; exact rfl; exact rfl; exact UndC.eq; exact SzC.eq; (focus ((repeat constructor); done)); omega; omega) | (apply EvW.ldFldOwn; exact rfl; exact ScalC.eq; (focus ((repeat constructor); done)); exact fun _ => rfl; omega; exact rfl; exact inferInstance)))
      (apply Par.quiet _ [false, false, false]; exact rfl; decide +kernel; exact rfl; intro R; refine ⟨_, (by repeat constructor), ?_⟩;
           (first | (apply EvW.move; exact rfl) | (apply EvW.assign; exact rfl) | (apply EvW.load; exact rfl; exact ScalC.eq; (focus ((repeat constructor); done)); exact rfl) | (apply EvW.ldSeen; exact rfl; exact ScalC.eq; assumption; (first | exact rfl | assumption)) | (apply EvW.ldFld; exact rfl; exact ScalC.eq; assumption; exact fun _ => rfl; omega; exact rfl; exact inferInstance) | (apply EvW.lenL; exact rfl; exact UndC.eq) | (apply EvW.cmpT; exact rfl; exact rfl; exact rfl; omega) | (apply EvW.cmpF; exact rfl; exact rfl; exact rfl; omega) | (apply EvW.cmp; exact rfl; exact rfl; exact rfl) | (apply EvW.arN; exact rfl; exact rfl; exact rfl; refine i64_in ?_ ?_ <;> omega) | (apply EvW.ar; exact rfl; exact rfl; exact rfl) | (apply EvW.ldStr; exact rfl; exact ScalC.eq; assumption; omega) | (apply EvW.ldStrOwn; exact rfl; exact ScalC.eq; (focus ((repeat constructor); done)); omega) | (apply EvW.lenRow; exact rfl; exact UndC.eq; assumption) | (apply EvW.lenOwn; exact rfl; exact UndC.eq; (focus ((repeat constructor); done))) | (apply EvW.idxRow; exact rfl; exact rfl; exact UndC.eq; exact SzC.eq; assumption; omega; omega) | (apply EvW.idxOwn; exact rfl; exact rfl; exact UndC.eq; exact SzC.eq; (focus ((repeat constructor); done)); omega; omega) | (apply EvW.ldFldOwn; exact rfl; exact ScalC.eq; (focus ((repeat constructor); done)); exact fun _ => rfl; omega; exact rfl; exact inferInstance)))
      (apply Par.quiet _ [false, false, false]; exact rfl; decide +kernel; exact rfl; intro R; refine ⟨_, (by repeat constructor), ?_⟩;
           (first | (apply EvW.move; exact rfl) | (apply EvW.assign; exact rfl) | (apply EvW.load; exact rfl; exact ScalC.eq; (focus ((repeat constructor); done)); exact rfl) | (apply EvW.ldSeen; exact rfl; exact ScalC.eq; assumption; (first | exact rfl | assumption)) | (apply EvW.ldFld; exact rfl; exact ScalC.eq; assumption; exact fun _ => rfl; omega; exact rfl; exact inferInstance) | (apply EvW.lenL; exact rfl; exact UndC.eq) | (apply EvW.cmpT; exact rfl; exact rfl; exact rfl; omega) | (apply EvW.cmpF; exact rfl; exact rfl; exact rfl; omega) | (apply EvW.cmp; exact rfl; exact rfl; exact rfl) | (apply EvW.arN; exact rfl; exact rfl; exact rfl; refine i64_in ?_ ?_ <;> omega) | (apply EvW.ar; exact rfl; exact rfl; exact rfl) | (apply EvW.ldStr; exact rfl; exact ScalC.eq; assumption; omega) | (apply EvW.ldStrOwn; exact rfl; exact ScalC.eq; (focus ((repeat constructor); done)); omega) | (apply EvW.lenRow; exact rfl; exact UndC.eq; assumption) | (apply EvW.lenOwn; exact rfl; exact UndC.eq; (focus ((repeat constructor); done))) | (apply EvW.idxRow; exact rfl; exact rfl; exact UndC.eq; exact SzC.eq; assumption; omega; omega) | (apply EvW.idxOwn; exact rfl; exact rfl; exact UndC.eq; exact SzC.eq; (focus ((repeat constructor); done)); omega; omega) | (apply EvW.ldFldOwn; exact rfl; exact ScalC.eq; (focus ((repeat constructor); done)); exact fun _ => rfl; omega; exact rfl; exact inferInstance)))
      (apply Par.quiet _ [true, false, false]; exact rfl; decide +kernel; exact rfl; intro R; refine ⟨_, (by repeat constructor), ?_⟩;
           (first | (apply EvW.move; exact rfl) | (apply EvW.assign; exact rfl) | (apply EvW.load; exact rfl; exact ScalC.eq; (focus ((repeat constructor); done)); exact rfl) | (apply EvW.ldSeen; exact rfl; exact ScalC.eq; assumption; (first | exact rfl | assumption)) | (apply EvW.ldFld; exact rfl; exact ScalC.eq; assumption; exact fun _ => rfl; omega; exact rfl; exact inferInstance) | (apply EvW.lenL; exact rfl; exact UndC.eq) | (apply EvW.cmpT; exact rfl; exact rfl; exact rfl; omega) | (apply EvW.cmpF; exact rfl; exact rfl; exact rfl; omega) | (apply EvW.cmp; exact rfl; exact rfl; exact rfl) | (apply EvW.arN; exact rfl; exact rfl; exact rfl; refine i64_in ?_ ?_ <;> omega) | (apply EvW.ar; exact rfl; exact rfl; exact rfl) | (apply EvW.ldStr; exact rfl; exact ScalC.eq; assumption; omega) | (apply EvW.ldStrOwn; exact rfl; exact ScalC.eq; (focus ((repeat constructor); done)); omega) | (apply EvW.lenRow; exact rfl; exact UndC.eq; assumption) | (apply EvW.lenOwn; exact rfl; exact UndC.eq; (focus ((repeat constructor); done))) | (apply EvW.idxRow; exact rfl; exact rfl; exact UndC.eq; exact SzC.eq; assumption; omega; omega) | (apply EvW.idxOwn; exact rfl; exact rfl; exact UndC.eq; exact SzC.eq; (focus ((repeat constructor); done)); omega; omega) | (apply EvW.ldFldOwn; exact rfl; exact ScalC.eq; (focus ((repeat constructor); done)); exact fun _ => rfl; omega; exact rfl; exact inferInstance)))
      (apply Par.quiet _ [true, false, false]; exact rfl; decide +kernel; exact rfl; intro R; refine ⟨_, (by repeat constructor), ?_⟩;
           (first | (apply EvW.move; exact rfl) | (apply EvW.assign; exact rfl) | (apply EvW.load; exact rfl; exact ScalC.eq; (focus ((repeat constructor); done)); exact rfl) | (apply EvW.ldSeen; exact rfl; exact ScalC.eq; assumption; (first | exact rfl | assumption)) | (apply EvW.ldFld; exact rfl; exact ScalC.eq; assumption; exact fun _ => rfl; omega; exact rfl; exact inferInstance) | (apply EvW.lenL; exact rfl; exact UndC.eq) | (apply EvW.cmpT; exact rfl; exact rfl; exact rfl; omega) | (apply EvW.cmpF; exact rfl; exact rfl; exact rfl; omega) | (apply EvW.cmp; exact rfl; exact rfl; exact rfl) | (apply EvW.arN; exact rfl; exact rfl; exact rfl; refine i64_in ?_ ?_ <;> omega) | (apply EvW.ar; exact rfl; exact rfl; exact rfl) | (apply EvW.ldStr; exact rfl; exact ScalC.eq; assumption; omega) | (apply EvW.ldStrOwn; exact rfl; exact ScalC.eq; (focus ((repeat constructor); done)); omega) | (apply EvW.lenRow; exact rfl; exact UndC.eq; assumption) | (apply EvW.lenOwn; exact rfl; exact UndC.eq; (focus ((repeat constructor); done))) | (apply EvW.idxRow; exact rfl; exact rfl; exact UndC.eq; exact SzC.eq; assumption; omega; omega) | (apply EvW.idxOwn; exact rfl; exact rfl; exact UndC.eq; exact SzC.eq; (focus ((repeat constructor); done)); omega; omega) | (apply EvW.ldFldOwn; exact rfl; exact ScalC.eq; (focus ((repeat constructor); done)); exact fun _ => rfl; omega; exact rfl; exact inferInstance)))
      (apply Par.quiet _ [true, false, false]; exact rfl; decide +kernel; exact rfl; intro R; refine ⟨_, (by repeat constructor), ?_⟩;
           (first | (apply EvW.move; exact rfl) | (apply EvW.assign; exact rfl) | (apply EvW.load; exact rfl; exact ScalC.eq; (focus ((repeat constructor); done)); exact rfl) | (apply EvW.ldSeen; exact rfl; exact ScalC.eq; assumption; (first | exact rfl | assumption)) | (apply EvW.ldFld; exact rfl; exact ScalC.eq; assumption; exact fun _ => rfl; omega; exact rfl; exact inferInstance) | (apply EvW.lenL; exact rfl; exact UndC.eq) | (apply EvW.cmpT; exact rfl; exact rfl; exact rfl; omega) | (apply EvW.cmpF; exact rfl; exact rfl; exact rfl; omega) | (apply EvW.cmp; exact rfl; exact rfl; exact rfl) | (apply EvW.arN; exact rfl; exact rfl; exact rfl; refine i64_in ?_ ?_ <;> omega) | (apply EvW.ar; exact rfl; exact rfl; exact rfl) | (apply EvW.ldStr; exact rfl; exact ScalC.eq; assumption; omega) | (apply EvW.ldStrOwn; exact rfl; exact ScalC.eq; (focus ((repeat constructor); done)); omega) | (apply EvW.lenRow; exact rfl; exact UndC.eq; assumption) | (apply EvW.lenOwn; exact rfl; exact UndC.eq; (focus ((repeat constructor); done))) | (apply EvW.idxRow; exact rfl; exact rfl; exact UndC.eq; exact SzC.eq; assumption; omega; omega) | (apply EvW.idxOwn; exact rfl; exact rfl; exact UndC.eq; exact SzC.eq; (focus ((repeat constructor); done)); omega; omega) | (apply EvW.ldFldOwn; exact rfl; exact ScalC.eq; (focus ((repeat constructor); done)); exact fun _ => rfl; omega; exact rfl; exact inferInstance)))
      (apply Par.quiet _ [true, false, false]; exact rfl; decide +kernel; exact rfl; intro R; refine ⟨_, (by repeat constructor), ?_⟩;
           (first | (apply EvW.move; exact rfl) | (apply EvW.assign; exact rfl) | (apply EvW.load; exact rfl; exact ScalC.eq; (focus ((repeat constructor); done)); exact rfl) | (apply EvW.ldSeen; exact rfl; exact ScalC.eq; assumption; (first | exact rfl | assumption)) | (apply EvW.ldFld; exact rfl; exact ScalC.eq; assumption; exact fun _ => rfl; omega; exact rfl; exact inferInstance) | (apply EvW.lenL; exact rfl; exact UndC.eq) | (apply EvW.cmpT; exact rfl; exact rfl; exact rfl; omega) | (apply EvW.cmpF; exact rfl; exact rfl; exact rfl; omega) | (apply EvW.cmp; exact rfl; exact rfl; exact rfl) | (apply EvW.arN; exact rfl; exact rfl; exact rfl; refine i64_in ?_ ?_ <;> omega) | (apply EvW.ar; exact rfl; exact rfl; exact rfl) | (apply EvW.ldStr; exact rfl; exact ScalC.eq; assumption; omega) | (apply EvW.ldStrOwn; exact rfl; exact ScalC.eq; (focus ((repeat constructor); done)); omega) | (apply EvW.lenRow; exact rfl; exact UndC.eq; assumption) | (apply EvW.lenOwn; exact rfl; exact UndC.eq; (focus ((repeat constructor); done))) | (apply EvW.idxRow; exact rfl; exact rfl; exact UndC.eq; exact SzC.eq; assumption; omega; omega) | (apply EvW.idxOwn; exact rfl; exact rfl; exact UndC.eq; exact SzC.eq; (focus ((repeat constructor); done)); omega; omega) | (apply EvW.ldFldOwn; exact rfl; exact ScalC.eq; (focus ((repeat constructor); done)); exact fun _ => rfl; omega; exact rfl; exact inferInstance)))
      (apply Par.quiet _ [true, false, false]; exact rfl; decide +kernel; exact rfl; intro R; refine ⟨_, (by repeat constructor), ?_⟩;
           (first | (apply EvW.move; exact rfl) | (apply EvW.assign; exact rfl) | (apply EvW.load; exact rfl; exact ScalC.eq; (focus ((repeat constructor); done)); exact rfl) | (apply EvW.ldSeen; exact rfl; exact ScalC.eq; assumption; (first | exact rfl | assumption)) | (apply EvW.ldFld; exact rfl; exact ScalC.eq; assumption; exact fun _ => rfl; omega; exact rfl; exact inferInstance) | (apply EvW.lenL; exact rfl; exact UndC.eq) | (apply EvW.cmpT; exact rfl; exact rfl; exact rfl; omega) | (apply EvW.cmpF; exact rfl; exact rfl; exact rfl; omega) | (apply EvW.cmp; exact rfl; exact rfl; exact rfl) | (apply EvW.arN; exact rfl; exact rfl; exact rfl; refine i64_in ?_ ?_ <;> omega) | (apply EvW.ar; exact rfl; exact rfl; exact rfl) | (apply EvW.ldStr; exact rfl; exact ScalC.eq; assumption; omega) | (apply EvW.ldStrOwn; exact rfl; exact ScalC.eq; (focus ((repeat constructor); done)); omega) | (apply EvW.lenRow; exact rfl; exact UndC.eq; assumption) | (apply EvW.lenOwn; exact rfl; exact UndC.eq; (focus ((repeat constructor); done))) | (apply EvW.idxRow; exact rfl; exact rfl; exact UndC.eq; exact SzC.eq; assumption; omega; omega) | (apply EvW.idxOwn; exact rfl; exact rfl; exact UndC.eq; exact SzC.eq; (focus ((repeat constructor); done)); omega; omega) | (apply EvW.ldFldOwn; exact rfl; exact ScalC.eq; (focus ((repeat constructor); done)); exact fun _ => rfl; omega; exact rfl; exact inferInstance)))
      (apply Par.quiet _ [true, false, false]; exact rfl; decide +kernel; exact rfl; intro R; refine ⟨_, (by repeat constructor), ?_⟩;
           (first | (apply EvW.move; exact rfl) | (apply EvW.assign; exact rfl) | (apply EvW.load; exact rfl; exact ScalC.eq; (focus ((repeat constructor); done)); exact rfl) | (apply EvW.ldSeen; exact rfl; exact ScalC.eq; assumption; (first | exact rfl | assumption)) | (apply EvW.ldFld; exact rfl; exact ScalC.eq; assumption; exact fun _ => rfl; omega; exact rfl; exact inferInstance) | (apply EvW.lenL; exact rfl; exact UndC.eq) | (apply EvW.cmpT; exact rfl; exact rfl; exact rfl; omega) | (apply EvW.cmpF; exact rfl; exact rfl; exact rfl; omega) | (apply EvW.cmp; exact rfl; exact rfl; exact rfl) | (apply EvW.arN; exact rfl; exact rfl; exact rfl; refine i64_in ?_ ?_ <;> omega) | (apply EvW.ar; exact rfl; exact rfl; exact rfl) | (apply EvW.ldStr; exact rfl; exact ScalC.eq; assumption; omega) | (apply EvW.ldStrOwn; exact rfl; exact ScalC.eq; (focus ((repeat constructor); done)); omega) | (apply EvW.lenRow; exact rfl; exact UndC.eq; assumption) | (apply EvW.lenOwn; exact rfl; exact UndC.eq; (focus ((repeat constructor); done))) | (apply EvW.idxRow; exact rfl; exact rfl; exact UndC.eq; exact SzC.eq; assumption; omega; omega) | (apply EvW.idxOwn; exact rfl; exact rfl; exact UndC.eq; exact SzC.eq; (focus ((repeat constructor); done)); omega; omega) | (apply EvW.ldFldOwn; exact rfl; exact ScalC.eq; (focus ((repeat constructor); done)); exact fun _ => rfl; omega; exact rfl; exact inferInstance)))
      (apply Par.quiet _ [true, false, false]; exact rfl; decide +kernel; exact rfl; intro R; refine ⟨_, (by repeat constructor), ?_⟩;
           (first | (apply EvW.move; exact rfl) | (apply EvW.assign; exact rfl) | (apply EvW.load; exact rfl; exact ScalC.eq; (focus ((repeat constructor); done)); exact rfl) | (apply EvW.ldSeen; exact rfl; exact ScalC.eq; assumption; (first | exact rfl | assumption)) | (apply EvW.ldFld; exact rfl; exact ScalC.eq; assumption; exact fun _ => rfl; omega; exact rfl; exact inferInstance) | (apply EvW.lenL; exact rfl; exact UndC.eq) | (apply EvW.cmpT; exact rfl; exact rfl; exact rfl; omega) | (apply EvW.cmpF; exact rfl; exact rfl; exact rfl; omega) | (apply EvW.cmp; exact rfl; exact rfl; exact rfl) | (apply EvW.arN; exact rfl; exact rfl; exact rfl; refine i64_in ?_ ?_ <;> omega) | (apply EvW.ar; exact rfl; exact rfl; exact rfl) | (apply EvW.ldStr; exact rfl; exact ScalC.eq; assumption; omega) | (apply EvW.ldStrOwn; exact rfl; exact ScalC.eq; (focus ((repeat constructor); done)); omega) | (apply EvW.lenRow; exact rfl; exact UndC.eq; assumption) | (apply EvW.lenOwn; exact rfl; exact UndC.eq; (focus ((repeat constructor); done))) | (apply EvW.idxRow; exact rfl; exact rfl; exact UndC.eq; exact SzC.eq; assumption; omega; omega) | (apply EvW.idxOwn; exact rfl; exact rfl; exact UndC.eq; exact SzC.eq; (focus ((repeat constructor); done)); omega; omega) | (apply EvW.ldFldOwn; exact rfl; exact ScalC.eq; (focus ((repeat constructor); done)); exact fun _ => rfl; omega; exact rfl; exact inferInstance)))
      (apply Par.quiet _ [true, false, false]; exact rfl; decide +kernel; exact rfl; intro R; refine ⟨_, (by repeat constructor), ?_⟩;
           (first | (apply EvW.move; exact rfl) | (apply EvW.assign; exact rfl) | (apply EvW.load; exact rfl; exact ScalC.eq; (focus ((repeat constructor); done)); exact rfl) | (apply EvW.ldSeen; exact rfl; exact ScalC.eq; assumption; (first | exact rfl | assumption)) | (apply EvW.ldFld; exact rfl; exact ScalC.eq; assumption; exact fun _ => rfl; omega; exact rfl; exact inferInstance) | (apply EvW.lenL; exact rfl; exact UndC.eq) | (apply EvW.cmpT; exact rfl; exact rfl; exact rfl; omega) | (apply EvW.cmpF; exact rfl; exact rfl; exact rfl; omega) | (apply EvW.cmp; exact rfl; exact rfl; exact rfl) | (apply EvW.arN; exact rfl; exact rfl; exact rfl; refine i64_in ?_ ?_ <;> omega) | (apply EvW.ar; exact rfl; exact rfl; exact rfl) | (apply EvW.ldStr; exact rfl; exact ScalC.eq; assumption; omega) | (apply EvW.ldStrOwn; exact rfl; exact ScalC.eq; (focus ((repeat constructor); done)); omega) | (apply EvW.lenRow; exact rfl; exact UndC.eq; assumption) | (apply EvW.lenOwn; exact rfl; exact UndC.eq; (focus ((repeat constructor); done))) | (apply EvW.idxRow; exact rfl; exact rfl; exact UndC.eq; exact SzC.eq; assumption; omega; omega) | (apply EvW.idxOwn; exact rfl; exact rfl; exact UndC.eq; exact SzC.eq; (focus ((repeat constructor); done)); omega; omega) | (apply EvW.ldFldOwn; exact rfl; exact ScalC.eq; (focus ((repeat constructor); done)); exact fun _ => rfl; omega; exact rfl; exact inferInstance)))
      (apply Par.quiet _ [true, false, false]; exact rfl; decide +kernel; exact rfl; intro R; refine ⟨_, (by repeat constructor), ?_⟩;
           (first | (apply EvW.move; exact rfl) | (apply EvW.assign; exact rfl) | (apply EvW.load; exact rfl; exact ScalC.eq; (focus ((repeat constructor); done)); exact rfl) | (apply EvW.ldSeen; exact rfl; exact ScalC.eq; assumption; (first | exact rfl | assumption)) | (apply EvW.ldFld; exact rfl; exact ScalC.eq; assumption; exact fun _ => rfl; omega; exact rfl; exact inferInstance) | (apply EvW.lenL; exact rfl; exact UndC.eq) | (apply EvW.cmpT; exact rfl; exact rfl; exact rfl; omega) | (apply EvW.cmpF; exact rfl; exact rfl; exact rfl; omega) | (apply EvW.cmp; exact rfl; exact rfl; exact rfl) | (apply EvW.arN; exact rfl; exact rfl; exact rfl; refine i64_in ?_ ?_ <;> omega) | (apply EvW.ar; exact rfl; exact rfl; exact rfl) | (apply EvW.ldStr; exact rfl; exact ScalC.eq; assumption; omega) | (apply EvW.ldStrOwn; exact rfl; exact ScalC.eq; (focus ((repeat constructor); done)); omega) | (apply EvW.lenRow; exact rfl; exact UndC.eq; assumption) | (apply EvW.lenOwn; exact rfl; exact UndC.eq; (focus ((repeat constructor); done))) | (apply EvW.idxRow; exact rfl; exact rfl; exact UndC.eq; exact SzC.eq; assumption; omega; omega) | (apply EvW.idxOwn; exact rfl; exact rfl; exact UndC.eq; exact SzC.eq; (focus ((repeat constructor); done)); omega; omega) | (apply EvW.ldFldOwn; exact rfl; exact ScalC.eq; (focus ((repeat constructor); done)); exact fun _ => rfl; omega; exact rfl; exact inferInstance)))
      apply Par.eff _ [true, false, false] [false, true, false] [false, false, false]
      · exact rfl
      · exact rfl
      · decide +kernel
      · intro R
        refine ⟨_, _, _, (by repeat constructor), (by repeat constructor), (by repeat constructor), ?_⟩
        (apply EffW.stOwn; exact rfl; exact rfl; exact rfl; exact SzC.eq; exact rfl; exact rfl; exact .head; (rw [List.length_map, List.length_singleton]; omega); (rw [over_one (by rw [List.length_map]; omega), show ((k : Nat) : Int).toNat * 1 + 0 = k by omega, e1, ← List.map_set, List.length_set]; exact .head))
      (apply Par.quiet _ [false, true, false]; exact rfl; decide +kernel; exact rfl; intro R; refine ⟨_, (by repeat constructor), ?_⟩;
           (first | (apply EvW.move; exact rfl) | (apply EvW.assign; exact rfl) | (apply EvW.load; exact rfl; exact ScalC.eq; (focus ((repeat constructor); done)); exact rfl) | (apply EvW.ldSeen; exact rfl; exact ScalC.eq; assumption; (first | exact rfl | assumption)) | (apply EvW.ldFld; exact rfl; exact ScalC.eq; assumption; exact fun _ => rfl; omega; exact rfl; exact inferInstance) | (apply EvW.lenL; exact rfl; exact UndC.eq) | (apply EvW.cmpT; exact rfl; exact rfl; exact rfl; omega) | (apply EvW.cmpF; exact rfl; exact rfl; exact rfl; omega) | (apply EvW.cmp; exact rfl; exact rfl; exact rfl) | (apply EvW.arN; exact rfl; exact rfl; exact rfl; refine i64_in ?_ ?_ <;> omega) | (apply EvW.ar; exact rfl; exact rfl; exact rfl) | (apply EvW.ldStr; exact rfl; exact ScalC.eq; assumption; omega) | (apply EvW.ldStrOwn; exact rfl; exact ScalC.eq; (focus ((repeat constructor); done)); omega) | (apply EvW.lenRow; exact rfl; exact UndC.eq; assumption) | (apply EvW.lenOwn; exact rfl; exact UndC.eq; (focus ((repeat constructor); done))) | (apply EvW.idxRow; exact rfl; exact rfl; exact UndC.eq; exact SzC.eq; assumption; omega; omega) | (apply EvW.idxOwn; exact rfl; exact rfl; exact UndC.eq; exact SzC.eq; (focus ((repeat constructor); done)); omega; omega) | (apply EvW.ldFldOwn; exact rfl; exact ScalC.eq; (focus ((repeat constructor); done)); exact fun _ => rfl; omega; exact rfl; exact inferInstance)))
      apply Par.eff _ [false, true, false] [false, false, true] [false, false, false]
      · exact rfl
      · exact rfl
      · decide +kernel
      · intro R
        refine ⟨_, _, _, (by repeat constructor), (by repeat constructor), (by repeat constructor), ?_⟩
        (apply EffW.stOwn; exact rfl; exact rfl; exact rfl; exact SzC.eq; exact rfl; exact rfl; exact .head; (rw [List.length_map, List.length_singleton, List.length_set]; omega); (rw [over_one (by rw [List.length_map, List.length_set]; omega), e1, show (l.length - 1 - k) * 1 + 0 = l.length - 1 - k by omega, show ((k : Nat) : Int).toNat = k from rfl, ← List.map_set, List.length_set, revK_step l k hlt, revK_len, ← revK_len l (k + 1)]; exact .head))
      exact Par.nil
    · repeat (first | exact AllN.nil | (apply AllN.cons; (intro c x; (repeat (first | exact IndA.nil | (apply IndA.skip; decide +kernel) | apply IndA.same))))) 
    · repeat (first | exact AllN.nil | (apply AllN.cons; (intro c x; (repeat (first | exact IndT.nil | (apply IndT.skip; decide +kernel) | apply IndT.same))))) 
    · exact fun _ => rfl
    intro c
    refine ⟨_, (by repeat constructor), ?_⟩
    apply WE.writ
    · (focus ((repeat (first | exact Writ.nil | apply Writ.some | apply Writ.none)); done))
    repeat first
      | (apply WL.q; exact rfl; exact rfl; exact rfl; (first | (apply EvW.move; exact rfl) | (apply EvW.assign; exact rfl) | (apply EvW.load; exact rfl; exact ScalC.eq; (focus ((repeat constructor); done)); exact rfl) | (apply EvW.ldSeen; exact rfl; exact ScalC.eq; assumption; (first | exact rfl | assumption)) | (apply EvW.ldFld; exact rfl; exact ScalC.eq; assumption; exact fun _ => rfl; omega; exact rfl; exact inferInstance) | (apply EvW.lenL; exact rfl; exact UndC.eq) | (apply EvW.cmpT; exact rfl; exact rfl; exact rfl; omega) | (apply EvW.cmpF; exact rfl; exact rfl; exact rfl; omega) | (apply EvW.cmp; exact rfl; exact rfl; exact rfl) | (apply EvW.arN; exact rfl; exact rfl; exact rfl; refine i64_in ?_ ?_ <;> omega) | (apply EvW.ar; exact rfl; exact rfl; exact rfl) | (apply EvW.ldStr; exact rfl; exact ScalC.eq; assumption; omega) | (apply EvW.ldStrOwn; exact rfl; exact ScalC.eq; (focus ((repeat constructor); done)); omega) | (apply EvW.lenRow; exact rfl; exact UndC.eq; assumption) | (apply EvW.lenOwn; exact rfl; exact UndC.eq; (focus ((repeat constructor); done))) | (apply EvW.idxRow; exact rfl; exact rfl; exact UndC.eq; exact SzC.eq; assumption; omega; omega) | (apply EvW.idxOwn; exact rfl; exact rfl; exact UndC.eq; exact SzC.eq; (focus ((repeat constructor); done)); omega; omega) | (apply EvW.ldFldOwn; exact rfl; exact ScalC.eq; (focus ((repeat constructor); done)); exact fun _ => rfl; omega; exact rfl; exact inferInstance)))
      | refine WC.seq ?_ | refine WC.region ?_ | refine WL.nil ?_ | refine WE.next ?_ | refine WC.block ?_ | refine WC.skip ?_ | refine WC.exit ?_ | refine WE.pass ?_ | refine WE.hit ?_ | refine WE.miss rfl ?_ | refine WE.out ?_ | refine WC.condT rfl ?_ | refine WC.condF rfl ?_ | refine WC.ret ?_ | refine WE.passRet ?_ | refine WE.outRet ?_ | refine WL.wanted rfl rfl rfl ?_ | (apply WL.store; exact rfl; exact rfl; (first | assumption | exact rfl); exact SzC.eq; (first | assumption | exact rfl); (focus ((repeat constructor); done)))
    exact WE.again (s := (k, (l.length : Int) - 1 - k)) ((k + 1, (l.length : Int) - 1 - k - 1)) ⟨by omega, by omega⟩ (by (focus ((repeat (first | exact trivial | (refine ⟨rfl, ?_⟩))); done))) (fun _ h => (by (try simp only []); exact h.keep (by repeat constructor))) (by (try simp only []); omega)
  · rw [revK_all l k (by omega)]
    repeat first
      | (apply WL.q; exact rfl; exact rfl; exact rfl; (first | (apply EvW.move; exact rfl) | (apply EvW.assign; exact rfl) | (apply EvW.load; exact rfl; exact ScalC.eq; (focus ((repeat constructor); done)); exact rfl) | (apply EvW.ldSeen; exact rfl; exact ScalC.eq; assumption; (first | exact rfl | assumption)) | (apply EvW.ldFld; exact rfl; exact ScalC.eq; assumption; exact fun _ => rfl; omega; exact rfl; exact inferInstance) | (apply EvW.lenL; exact rfl; exact UndC.eq) | (apply EvW.cmpT; exact rfl; exact rfl; exact rfl; omega) | (apply EvW.cmpF; exact rfl; exact rfl; exact rfl; omega) | (apply EvW.cmp; exact rfl; exact rfl; exact rfl) | (apply EvW.arN; exact rfl; exact rfl; exact rfl; refine i64_in ?_ ?_ <;> omega) | (apply EvW.ar; exact rfl; exact rfl; exact rfl) | (apply EvW.ldStr; exact rfl; exact ScalC.eq; assumption; omega) | (apply EvW.ldStrOwn; exact rfl; exact ScalC.eq; (focus ((repeat constructor); done)); omega) | (apply EvW.lenRow; exact rfl; exact UndC.eq; assumption) | (apply EvW.lenOwn; exact rfl; exact UndC.eq; (focus ((repeat constructor); done))) | (apply EvW.idxRow; exact rfl; exact rfl; exact UndC.eq; exact SzC.eq; assumption; omega; omega) | (apply EvW.idxOwn; exact rfl; exact rfl; exact UndC.eq; exact SzC.eq; (focus ((repeat constructor); done)); omega; omega) | (apply EvW.ldFldOwn; exact rfl; exact ScalC.eq; (focus ((repeat constructor); done)); exact fun _ => rfl; omega; exact rfl; exact inferInstance)))
      | refine WC.seq ?_ | refine WC.region ?_ | refine WL.nil ?_ | refine WE.next ?_ | refine WC.block ?_ | refine WC.skip ?_ | refine WC.exit ?_ | refine WE.pass ?_ | refine WE.hit ?_ | refine WE.miss rfl ?_ | refine WE.out ?_ | refine WC.condT rfl ?_ | refine WC.condF rfl ?_ | refine WC.ret ?_ | refine WE.passRet ?_ | refine WE.outRet ?_ | refine WL.wanted rfl rfl rfl ?_ | (apply WL.store; exact rfl; exact rfl; (first | assumption | exact rfl); exact SzC.eq; (first | assumption | exact rfl); (focus ((repeat constructor); done)))
    refine WE.keep (xs := [.own 9 1 (v) (l.reverse).length ((l.reverse).map str)]) (by repeat constructor) ?_
    first | refine WE.end0 rfl ?_ | refine WE.ret0 rfl ?_
    exact ⟨rfl, rfl⟩
end Go.Proofs.Ytoaajdmacngnjaa
namespace Go.Proofs.Ytoaajdmacngnjaa
open Go.RowKit Go.BK
def wireH (q : Wr) (b : Nat) : HP := .ex fun v : Value × Value => sepL [.blk b #[i64 (q.mode), v.1, v.2] 54, .own 9 1 (v.1) (q.due).length ((q.due).map str), .own 9 1 (v.2) (q.held).length ((q.held).map str)]
section
variable {P : Program} {w0 : World} {S0 : BSet} {n : Nat} {F : Fr} {A r : List HP} {ops : Array Oper} {Q : Exit → Act → World → Prop} {rest : List Oper} {q : Wr} {b : Nat} {vd vh : Value}
theorem St.openWire {w : World} (ht : Take (wireH q b) A r) (h : St w0 S0 A w) : ∃ vd vh, St w0 S0 (.blk b #[i64 (q.mode), vd, vh] 54 :: .own 9 1 (vd) (q.due).length ((q.due).map str) :: .own 9 1 (vh) (q.held).length ((q.held).map str) :: r) w := by
  obtain ⟨⟨vd, vh⟩, h1⟩ := St.exH ht h
  exact ⟨vd, vh, St.unpack .head rfl h1⟩
theorem St.shutWire {w : World} {m : Int} {d h : List Txt} {p : Int} (t : TakeL [.blk b #[i64 (m), vd, vh] 54, .own 9 1 (vd) (d).length ((d).map str), .own 9 1 (vh) (h).length ((h).map str)] A r) (hs : St w0 S0 A w) : St w0 S0 (wireH ⟨p, m, d, h⟩ b :: r) w :=
  St.inEx (f := fun v : Value × Value => sepL [.blk b #[i64 (m), v.1, v.2] 54, .own 9 1 (v.1) (d).length ((d).map str), .own 9 1 (v.2) (h).length ((h).map str)]) (vd, vh) (St.pack t hs)
theorem WC.openWire {c : Code} (ht : Take (wireH q b) A r) (kk : ∀ vd vh, WC P w0 S0 n c Q F (.blk b #[i64 (q.mode), vd, vh] 54 :: .own 9 1 (vd) (q.due).length ((q.due).map str) :: .own 9 1 (vh) (q.held).length ((q.held).map str) :: r)) : WC P w0 S0 n c Q F A :=
  ⟨fun a w ha hs => by obtain ⟨x, y, h⟩ := St.openWire ht hs; exact (kk x y).go a w ha h⟩
theorem WL.openWire (ht : Take (wireH q b) A r) (kk : ∀ vd vh, WL P w0 S0 n ops Q rest F (.blk b #[i64 (q.mode), vd, vh] 54 :: .own 9 1 (vd) (q.due).length ((q.due).map str) :: .own 9 1 (vh) (q.held).length ((q.held).map str) :: r)) : WL P w0 S0 n ops Q rest F A :=
  ⟨fun a w ha hs => by obtain ⟨x, y, h⟩ := St.openWire ht hs; exact (kk x y).go a w ha h⟩
theorem WE.shutWire {e : Exit} {m : Int} {d h : List Txt} (p : Int) (t : TakeL [.blk b #[i64 (m), vd, vh] 54, .own 9 1 (vd) (d).length ((d).map str), .own 9 1 (vh) (h).length ((h).map str)] A r) (kk : WE w0 S0 n Q e F (wireH ⟨p, m, d, h⟩ b :: r)) : WE w0 S0 n Q e F A := kk.conv fun _ hs => St.shutWire t hs
theorem WL.shutWire {m : Int} {d h : List Txt} (p : Int) (t : TakeL [.blk b #[i64 (m), vd, vh] 54, .own 9 1 (vd) (d).length ((d).map str), .own 9 1 (vh) (h).length ((h).map str)] A r) (kk : WL P w0 S0 n ops Q rest F (wireH ⟨p, m, d, h⟩ b :: r)) : WL P w0 S0 n ops Q rest F A := kk.conv fun _ hs => St.shutWire t hs
end
def readyO (q : Wr) : List Txt := if q.mode = 5 then q.due else q.due ++ q.held.reverse
def readyW (q : Wr) : Wr := ⟨q.p, q.mode, [], if q.mode = 5 then q.held else []⟩
def inO (q : Wr) (s : Txt) : List Txt := if q.mode = 3 ∨ q.mode = 0 then [s] else if q.mode = 4 then [spoilF s] else []
def inW (q : Wr) (s : Txt) : Wr := if q.mode = 3 ∨ q.mode = 2 then ⟨q.p, q.mode, q.due ++ [s], q.held⟩ else if q.mode = 5 then ⟨q.p, q.mode, q.due, q.held ++ [s]⟩ else q
def wSize (q : Wr) : Nat := q.due.length + q.held.length
theorem St.one {w0 w : World} {S0 : BSet} {r : List HP} {k e : Nat} {x : Value} (h : St w0 S0 (.blk k [x].toArray e :: r) w) : St w0 S0 (.own e 1 (.slice (some ⟨k, 0, none⟩) 1 1) 1 [x] :: r) w :=
  h.mono fun S w hs => star_mono hs (fun S h => blk_own (sp := []) (by rw [List.append_nil]; exact h) rfl (Nat.le_refl _) rfl) fun _ h => h
theorem all_str (l : List Txt) : (l.map str).all (·.oneCell') = true := by
  rw [List.all_map, List.all_eq_true]; intro x _; rfl
theorem ready_spec (q : Wr) (b : Nat) (w : World) (S : BSet) (hS : (sepL [wireH q b]).sat S w) (hn : wSize q ≤ 2147483648) :
    Tri Try.prog 23 #[ptr b 0] w S fun u A => A = [.own 9 1 (u) (readyO q).length ((readyO q).map str), wireH (readyW q) b] := by
  refine Tri.enter (l := [ptr b 0]) Try.func23 rfl Try.ntmps23 rfl [(0, ptr b 0)] (subA rfl) hS ?_
  unfold wSize at hn
  refine WC.openWire .head fun vd vh => ?_
  by_cases h5 : q.mode = 5
  · have e1 : readyO q = q.due := by unfold readyO; rw [if_pos h5]
    have e2 : readyW q = ⟨q.p, q.mode, [], q.held⟩ := by unfold readyW; rw [if_pos h5]
    rw [e1, e2]
    (first | refine WL.slOwn (v := vd) (by repeat constructor) ?_ | refine WC.slOwn (v := vd) (by repeat constructor) ?_)
    intro hc_vd ho_vd
    (first | refine WL.slOwn (v := vh) (by repeat constructor) ?_ | refine WC.slOwn (v := vh) (by repeat constructor) ?_)
    intro hc_vh ho_vh
    repeat first
      | (apply WL.q; exact rfl; exact rfl; exact rfl; (first | (apply EvW.move; exact rfl) | (apply EvW.assign; exact rfl) | (apply EvW.nilPtr; exact rfl) | (apply EvW.fieldAddr0; exact rfl; exact FldC.eq) | (apply EvW.fieldAddr; exact rfl; exact FldC.eq) | (apply EvW.load; exact rfl; exact ScalC.eq; (focus ((repeat constructor); done)); exact rfl) | (apply EvW.ldSeen; exact rfl; exact ScalC.eq; assumption; (first | exact rfl | assumption)) | (apply EvW.ldFld; exact rfl; exact ScalC.eq; assumption; exact fun _ => rfl; omega; exact rfl; exact inferInstance) | (apply EvW.cmpT; exact rfl; exact rfl; exact rfl; omega) | (apply EvW.cmpF; exact rfl; exact rfl; exact rfl; omega) | (apply EvW.cmp; exact rfl; exact rfl; exact rfl) | (apply EvW.ldInt; exact rfl; exact ScalC.eq; assumption; omega) | (apply EvW.ldIntOwn; exact rfl; exact ScalC.eq; (focus ((repeat constructor); done)); omega) | (apply EvW.fldRow; exact rfl; exact FldC.eq; assumption; omega) | (apply EvW.fldOwn; exact rfl; exact FldC.eq; (focus ((repeat constructor); done)); omega) | (apply EvW.nilElemOwn; exact rfl; (focus ((repeat constructor); done)); omega) | (apply EvW.nilElemRow; exact rfl; assumption; omega) | (apply EvW.ldFldOwn; exact rfl; exact ScalC.eq; (focus ((repeat constructor); done)); exact fun _ => rfl; omega; exact rfl; exact inferInstance)))
      | refine WC.seq ?_ | refine WC.region ?_ | refine WL.nil ?_ | refine WE.next ?_ | refine WC.skip ?_ | refine WC.exit ?_ | refine WE.pass ?_ | refine WE.hit ?_ | refine WE.miss rfl ?_ | refine WE.out ?_ | refine WC.condT rfl ?_ | refine WC.condF rfl ?_ | refine WC.ret ?_ | refine WE.passRet ?_ | refine WE.outRet ?_ | refine WL.wanted rfl rfl rfl ?_ | (apply WL.store; exact rfl; exact rfl; (first | assumption | exact rfl); exact SzC.eq; (first | assumption | exact rfl); (focus ((repeat constructor); done)))
    refine WE.conv (fun _ hs => hs.ownNil (e := 9) (sz := 1)) ?_
    refine WE.shutWire (vd := (.slice none 0 0)) (vh := vh) (d := []) q.p (by repeat constructor) ?_
    refine WE.keep (xs := [.own 9 1 (vd) (q.due).length ((q.due).map str), wireH ⟨q.p, q.mode, [], q.held⟩ b]) (by repeat constructor) ?_
    refine WE.ret1 rfl rfl ?_
    rfl
  · have e1 : readyO q = q.due ++ q.held.reverse := by unfold readyO; rw [if_neg h5]
    have e2 : readyW q = ⟨q.p, q.mode, [], []⟩ := by unfold readyW; rw [if_neg h5]
    rw [e1, e2]
    (first | refine WL.slOwn (v := vd) (by repeat constructor) ?_ | refine WC.slOwn (v := vd) (by repeat constructor) ?_)
    intro hc_vd ho_vd
    (first | refine WL.slOwn (v := vh) (by repeat constructor) ?_ | refine WC.slOwn (v := vh) (by repeat constructor) ?_)
    intro hc_vh ho_vh
    repeat first
      | (apply WL.q; exact rfl; exact rfl; exact rfl; (first | (apply EvW.move; exact rfl) | (apply EvW.assign; exact rfl) | (apply EvW.nilPtr; exact rfl) | (apply EvW.fieldAddr0; exact rfl; exact FldC.eq) | (apply EvW.fieldAddr; exact rfl; exact FldC.eq) | (apply EvW.load; exact rfl; exact ScalC.eq; (focus ((repeat constructor); done)); exact rfl) | (apply EvW.ldSeen; exact rfl; exact ScalC.eq; assumption; (first | exact rfl | assumption)) | (apply EvW.ldFld; exact rfl; exact ScalC.eq; assumption; exact fun _ => rfl; omega; exact rfl; exact inferInstance) | (apply EvW.cmpT; exact rfl; exact rfl; exact rfl; omega) | (apply EvW.cmpF; exact rfl; exact rfl; exact rfl; omega) | (apply EvW.cmp; exact rfl; exact rfl; exact rfl) | (apply EvW.ldInt; exact rfl; exact ScalC.eq; assumption; omega) | (apply EvW.ldIntOwn; exact rfl; exact ScalC.eq; (focus ((repeat constructor); done)); omega) | (apply EvW.fldRow; exact rfl; exact FldC.eq; assumption; omega) | (apply EvW.fldOwn; exact rfl; exact FldC.eq; (focus ((repeat constructor); done)); omega) | (apply EvW.nilElemOwn; exact rfl; (focus ((repeat constructor); done)); omega) | (apply EvW.nilElemRow; exact rfl; assumption; omega) | (apply EvW.ldFldOwn; exact rfl; exact ScalC.eq; (focus ((repeat constructor); done)); exact fun _ => rfl; omega; exact rfl; exact inferInstance)))
      | refine WC.seq ?_ | refine WC.region ?_ | refine WL.nil ?_ | refine WE.next ?_ | refine WC.skip ?_ | refine WC.exit ?_ | refine WE.pass ?_ | refine WE.hit ?_ | refine WE.miss rfl ?_ | refine WE.out ?_ | refine WC.condT rfl ?_ | refine WC.condF rfl ?_ | refine WC.ret ?_ | refine WE.passRet ?_ | refine WE.outRet ?_ | refine WL.wanted rfl rfl rfl ?_ | (apply WL.store; exact rfl; exact rfl; (first | assumption | exact rfl); exact SzC.eq; (first | assumption | exact rfl); (focus ((repeat constructor); done)))
    try refine WL.wanted rfl rfl rfl ?_
    apply WL.callA ([.own 9 1 (vh) (q.held).length ((q.held).map str)])
    · exact rfl
    · exact rfl
    · exact fun w => Try.call30 _ w
    · (focus ((repeat constructor); done))
    · exact fun w1 S1 hS1 hs1 ho1 => reverse_spec vh q.held w1 S1 hS1 (by omega)
    rintro _ _ ⟨rfl, rfl⟩
    first | refine WL.app4 ?_ | refine WL.app3 ?_ | refine WL.app2 ?_ | refine WL.app1 ?_ | refine WL.app0 ?_ | skip
    repeat first
      | (apply WL.q; exact rfl; exact rfl; exact rfl; (first | (apply EvW.move; exact rfl) | (apply EvW.assign; exact rfl) | (apply EvW.nilPtr; exact rfl) | (apply EvW.fieldAddr0; exact rfl; exact FldC.eq) | (apply EvW.fieldAddr; exact rfl; exact FldC.eq) | (apply EvW.load; exact rfl; exact ScalC.eq; (focus ((repeat constructor); done)); exact rfl) | (apply EvW.ldSeen; exact rfl; exact ScalC.eq; assumption; (first | exact rfl | assumption)) | (apply EvW.ldFld; exact rfl; exact ScalC.eq; assumption; exact fun _ => rfl; omega; exact rfl; exact inferInstance) | (apply EvW.cmpT; exact rfl; exact rfl; exact rfl; omega) | (apply EvW.cmpF; exact rfl; exact rfl; exact rfl; omega) | (apply EvW.cmp; exact rfl; exact rfl; exact rfl) | (apply EvW.ldInt; exact rfl; exact ScalC.eq; assumption; omega) | (apply EvW.ldIntOwn; exact rfl; exact ScalC.eq; (focus ((repeat constructor); done)); omega) | (apply EvW.fldRow; exact rfl; exact FldC.eq; assumption; omega) | (apply EvW.fldOwn; exact rfl; exact FldC.eq; (focus ((repeat constructor); done)); omega) | (apply EvW.nilElemOwn; exact rfl; (focus ((repeat constructor); done)); omega) | (apply EvW.nilElemRow; exact rfl; assumption; omega) | (apply EvW.ldFldOwn; exact rfl; exact ScalC.eq; (focus ((repeat constructor); done)); exact fun _ => rfl; omega; exact rfl; exact inferInstance)))
      | refine WC.seq ?_ | refine WC.region ?_ | refine WL.nil ?_ | refine WE.next ?_ | refine WC.skip ?_ | refine WC.exit ?_ | refine WE.pass ?_ | refine WE.hit ?_ | refine WE.miss rfl ?_ | refine WE.out ?_ | refine WC.condT rfl ?_ | refine WC.condF rfl ?_ | refine WC.ret ?_ | refine WE.passRet ?_ | refine WE.outRet ?_ | refine WL.wanted rfl rfl rfl ?_ | (apply WL.store; exact rfl; exact rfl; (first | assumption | exact rfl); exact SzC.eq; (first | assumption | exact rfl); (focus ((repeat constructor); done)))
    have hrl : q.held.reverse.length = q.held.length := List.length_reverse
    try refine WL.wanted rfl rfl rfl ?_
    (apply WL.append; exact rfl; exact rfl; exact rfl; exact UndC.eq; exact SzC.eq; exact ByC.eq; exact ZvC.eq; exact rfl; (first | exact notInt_sl UndC.eq | exact notInt_st UndC.eq); exact rfl; (focus ((repeat constructor); done)))
    · exact adds_own .head (by rw [List.length_map]; omega) (all_str _)
    · (omega)
    intro v2
    repeat first
      | (apply WL.q; exact rfl; exact rfl; exact rfl; (first | (apply EvW.move; exact rfl) | (apply EvW.assign; exact rfl) | (apply EvW.nilPtr; exact rfl) | (apply EvW.fieldAddr0; exact rfl; exact FldC.eq) | (apply EvW.fieldAddr; exact rfl; exact FldC.eq) | (apply EvW.load; exact rfl; exact ScalC.eq; (focus ((repeat constructor); done)); exact rfl) | (apply EvW.ldSeen; exact rfl; exact ScalC.eq; assumption; (first | exact rfl | assumption)) | (apply EvW.ldFld; exact rfl; exact ScalC.eq; assumption; exact fun _ => rfl; omega; exact rfl; exact inferInstance) | (apply EvW.cmpT; exact rfl; exact rfl; exact rfl; omega) | (apply EvW.cmpF; exact rfl; exact rfl; exact rfl; omega) | (apply EvW.cmp; exact rfl; exact rfl; exact rfl) | (apply EvW.ldInt; exact rfl; exact ScalC.eq; assumption; omega) | (apply EvW.ldIntOwn; exact rfl; exact ScalC.eq; (focus ((repeat constructor); done)); omega) | (apply EvW.fldRow; exact rfl; exact FldC.eq; assumption; omega) | (apply EvW.fldOwn; exact rfl; exact FldC.eq; (focus ((repeat constructor); done)); omega) | (apply EvW.nilElemOwn; exact rfl; (focus ((repeat constructor); done)); omega) | (apply EvW.nilElemRow; exact rfl; assumption; omega) | (apply EvW.ldFldOwn; exact rfl; exact ScalC.eq; (focus ((repeat constructor); done)); exact fun _ => rfl; omega; exact rfl; exact inferInstance)))
      | refine WC.seq ?_ | refine WC.region ?_ | refine WL.nil ?_ | refine WE.next ?_ | refine WC.skip ?_ | refine WC.exit ?_ | refine WE.pass ?_ | refine WE.hit ?_ | refine WE.miss rfl ?_ | refine WE.out ?_ | refine WC.condT rfl ?_ | refine WC.condF rfl ?_ | refine WC.ret ?_ | refine WE.passRet ?_ | refine WE.outRet ?_ | refine WL.wanted rfl rfl rfl ?_ | (apply WL.store; exact rfl; exact rfl; (first | assumption | exact rfl); exact SzC.eq; (first | assumption | exact rfl); (focus ((repeat constructor); done)))
    refine WE.conv (fun _ hs => (hs.ownNil (e := 9) (sz := 1)).ownNil (e := 9) (sz := 1)) ?_
    refine WE.shutWire (vd := (.slice none 0 0)) (vh := (.slice none 0 0)) (d := []) (h := []) q.p (by repeat constructor) ?_
    refine WE.keep (xs := [.own 9 1 v2 (q.due.length + q.held.reverse.length) (q.due.map str ++ q.held.reverse.map str), wireH ⟨q.p, q.mode, [], []⟩ b]) (by repeat constructor) ?_
    refine WE.ret1 rfl rfl ?_
    rw [List.length_append, List.map_append]
theorem in_spec (q : Wr) (b : Nat) (s : Txt) (w : World) (S : BSet) (hS : (sepL [wireH q b]).sat S w) (hs0 : s.length ≤ 140737488355328) (hn : wSize q ≤ 2147483648) :
    Tri Try.prog 24 #[ptr b 0, str s] w S fun u A => A = [.own 9 1 (u) (inO q s).length ((inO q s).map str), wireH (inW q s) b] := by
  refine Tri.enter (l := [ptr b 0, str s]) Try.func24 rfl Try.ntmps24 rfl [(0, ptr b 0), (1, str s)] (subA rfl) hS ?_
  unfold wSize at hn
  refine WC.openWire .head fun vd vh => ?_
  (first | refine WL.slOwn (v := vd) (by repeat constructor) ?_ | refine WC.slOwn (v := vd) (by repeat constructor) ?_)
  intro hc_vd ho_vd
  (first | refine WL.slOwn (v := vh) (by repeat constructor) ?_ | refine WC.slOwn (v := vh) (by repeat constructor) ?_)
  intro hc_vh ho_vh
  by_cases h3 : q.mode = 3
  · have e1 : inO q s = [s] := by unfold inO; rw [if_pos (.inl h3)]
    have e2 : inW q s = ⟨q.p, q.mode, q.due ++ [s], q.held⟩ := by unfold inW; rw [if_pos (.inl h3)]
    rw [e1, e2]
    repeat first
      | (apply WL.q; exact rfl; exact rfl; exact rfl; (first | (apply EvW.move; exact rfl) | (apply EvW.assign; exact rfl) | (apply EvW.nilPtr; exact rfl) | (apply EvW.fieldAddr0; exact rfl; exact FldC.eq) | (apply EvW.fieldAddr; exact rfl; exact FldC.eq) | (apply EvW.load; exact rfl; exact ScalC.eq; (focus ((repeat constructor); done)); exact rfl) | (apply EvW.ldSeen; exact rfl; exact ScalC.eq; assumption; (first | exact rfl | assumption)) | (apply EvW.ldFld; exact rfl; exact ScalC.eq; assumption; exact fun _ => rfl; omega; exact rfl; exact inferInstance) | (apply EvW.cmpT; exact rfl; exact rfl; exact rfl; omega) | (apply EvW.cmpF; exact rfl; exact rfl; exact rfl; omega) | (apply EvW.cmp; exact rfl; exact rfl; exact rfl) | (apply EvW.ldInt; exact rfl; exact ScalC.eq; assumption; omega) | (apply EvW.ldIntOwn; exact rfl; exact ScalC.eq; (focus ((repeat constructor); done)); omega) | (apply EvW.fldRow; exact rfl; exact FldC.eq; assumption; omega) | (apply EvW.fldOwn; exact rfl; exact FldC.eq; (focus ((repeat constructor); done)); omega) | (apply EvW.nilElemOwn; exact rfl; (focus ((repeat constructor); done)); omega) | (apply EvW.nilElemRow; exact rfl; assumption; omega) | (apply EvW.ldFldOwn; exact rfl; exact ScalC.eq; (focus ((repeat constructor); done)); exact fun _ => rfl; omega; exact rfl; exact inferInstance)))
      | refine WC.seq ?_ | refine WC.region ?_ | refine WL.nil ?_ | refine WE.next ?_ | refine WC.block ?_ | refine WC.skip ?_ | refine WC.exit ?_ | refine WE.pass ?_ | refine WE.hit ?_ | refine WE.miss rfl ?_ | refine WE.out ?_ | refine WC.condT rfl ?_ | refine WC.condF rfl ?_ | refine WC.ret ?_ | refine WE.passRet ?_ | refine WE.outRet ?_ | refine WL.wanted rfl rfl rfl ?_ | (apply WL.store; exact rfl; exact rfl; (first | assumption | exact rfl); exact SzC.eq; (first | assumption | exact rfl); (focus ((repeat constructor); done)))
    try refine WL.wanted rfl rfl rfl ?_
    (apply WL.buildSlice; exact rfl; exact UndC.eq; exact SzC.eq; exact ZvC.eq; exact rfl; exact rfl; exact rfl; ((focus ((repeat (first | exact Flat.nil | (apply Flat.one; (first | exact rfl | assumption)) | (apply Flat.cons; exact rfl; exact rfl))); done))); exact rfl; exact rfl; intro k0)
    repeat first
      | (apply WL.q; exact rfl; exact rfl; exact rfl; (first | (apply EvW.move; exact rfl) | (apply EvW.assign; exact rfl) | (apply EvW.nilPtr; exact rfl) | (apply EvW.fieldAddr0; exact rfl; exact FldC.eq) | (apply EvW.fieldAddr; exact rfl; exact FldC.eq) | (apply EvW.load; exact rfl; exact ScalC.eq; (focus ((repeat constructor); done)); exact rfl) | (apply EvW.ldSeen; exact rfl; exact ScalC.eq; assumption; (first | exact rfl | assumption)) | (apply EvW.ldFld; exact rfl; exact ScalC.eq; assumption; exact fun _ => rfl; omega; exact rfl; exact inferInstance) | (apply EvW.cmpT; exact rfl; exact rfl; exact rfl; omega) | (apply EvW.cmpF; exact rfl; exact rfl; exact rfl; omega) | (apply EvW.cmp; exact rfl; exact rfl; exact rfl) | (apply EvW.ldInt; exact rfl; exact ScalC.eq; assumption; omega) | (apply EvW.ldIntOwn; exact rfl; exact ScalC.eq; (focus ((repeat constructor); done)); omega) | (apply EvW.fldRow; exact rfl; exact FldC.eq; assumption; omega) | (apply EvW.fldOwn; exact rfl; exact FldC.eq; (focus ((repeat constructor); done)); omega) | (apply EvW.nilElemOwn; exact rfl; (focus ((repeat constructor); done)); omega) | (apply EvW.nilElemRow; exact rfl; assumption; omega) | (apply EvW.ldFldOwn; exact rfl; exact ScalC.eq; (focus ((repeat constructor); done)); exact fun _ => rfl; omega; exact rfl; exact inferInstance)))
      | refine WC.seq ?_ | refine WC.region ?_ | refine WL.nil ?_ | refine WE.next ?_ | refine WC.block ?_ | refine WC.skip ?_ | refine WC.exit ?_ | refine WE.pass ?_ | refine WE.hit ?_ | refine WE.miss rfl ?_ | refine WE.out ?_ | refine WC.condT rfl ?_ | refine WC.condF rfl ?_ | refine WC.ret ?_ | refine WE.passRet ?_ | refine WE.outRet ?_ | refine WL.wanted rfl rfl rfl ?_ | (apply WL.store; exact rfl; exact rfl; (first | assumption | exact rfl); exact SzC.eq; (first | assumption | exact rfl); (focus ((repeat constructor); done)))
    try refine WL.wanted rfl rfl rfl ?_
    (apply WL.append; exact rfl; exact rfl; exact rfl; exact UndC.eq; exact SzC.eq; exact ByC.eq; exact ZvC.eq; exact rfl; (first | exact notInt_sl UndC.eq | exact notInt_st UndC.eq); exact rfl; (focus ((repeat constructor); done)))
    · exact adds_blk .head rfl rfl
    · (omega)
    intro v2
    (first | refine WL.slOwn (v := v2) (by repeat constructor) ?_ | refine WC.slOwn (v := v2) (by repeat constructor) ?_)
    intro hc_v2 ho_v2
    repeat first
      | (apply WL.q; exact rfl; exact rfl; exact rfl; (first | (apply EvW.move; exact rfl) | (apply EvW.assign; exact rfl) | (apply EvW.nilPtr; exact rfl) | (apply EvW.fieldAddr0; exact rfl; exact FldC.eq) | (apply EvW.fieldAddr; exact rfl; exact FldC.eq) | (apply EvW.load; exact rfl; exact ScalC.eq; (focus ((repeat constructor); done)); exact rfl) | (apply EvW.ldSeen; exact rfl; exact ScalC.eq; assumption; (first | exact rfl | assumption)) | (apply EvW.ldFld; exact rfl; exact ScalC.eq; assumption; exact fun _ => rfl; omega; exact rfl; exact inferInstance) | (apply EvW.cmpT; exact rfl; exact rfl; exact rfl; omega) | (apply EvW.cmpF; exact rfl; exact rfl; exact rfl; omega) | (apply EvW.cmp; exact rfl; exact rfl; exact rfl) | (apply EvW.ldInt; exact rfl; exact ScalC.eq; assumption; omega) | (apply EvW.ldIntOwn; exact rfl; exact ScalC.eq; (focus ((repeat constructor); done)); omega) | (apply EvW.fldRow; exact rfl; exact FldC.eq; assumption; omega) | (apply EvW.fldOwn; exact rfl; exact FldC.eq; (focus ((repeat constructor); done)); omega) | (apply EvW.nilElemOwn; exact rfl; (focus ((repeat constructor); done)); omega) | (apply EvW.nilElemRow; exact rfl; assumption; omega) | (apply EvW.ldFldOwn; exact rfl; exact ScalC.eq; (focus ((repeat constructor); done)); exact fun _ => rfl; omega; exact rfl; exact inferInstance)))
      | refine WC.seq ?_ | refine WC.region ?_ | refine WL.nil ?_ | refine WE.next ?_ | refine WC.block ?_ | refine WC.skip ?_ | refine WC.exit ?_ | refine WE.pass ?_ | refine WE.hit ?_ | refine WE.miss rfl ?_ | refine WE.out ?_ | refine WC.condT rfl ?_ | refine WC.condF rfl ?_ | refine WC.ret ?_ | refine WE.passRet ?_ | refine WE.outRet ?_ | refine WL.wanted rfl rfl rfl ?_ | (apply WL.store; exact rfl; exact rfl; (first | assumption | exact rfl); exact SzC.eq; (first | assumption | exact rfl); (focus ((repeat constructor); done)))
    try refine WL.wanted rfl rfl rfl ?_
    (apply WL.buildSlice; exact rfl; exact UndC.eq; exact SzC.eq; exact ZvC.eq; exact rfl; exact rfl; exact rfl; ((focus ((repeat (first | exact Flat.nil | (apply Flat.one; (first | exact rfl | assumption)) | (apply Flat.cons; exact rfl; exact rfl))); done))); exact rfl; exact rfl; intro k1)
    repeat first
      | (apply WL.q; exact rfl; exact rfl; exact rfl; (first | (apply EvW.move; exact rfl) | (apply EvW.assign; exact rfl) | (apply EvW.nilPtr; exact rfl) | (apply EvW.fieldAddr0; exact rfl; exact FldC.eq) | (apply EvW.fieldAddr; exact rfl; exact FldC.eq) | (apply EvW.load; exact rfl; exact ScalC.eq; (focus ((repeat constructor); done)); exact rfl) | (apply EvW.ldSeen; exact rfl; exact ScalC.eq; assumption; (first | exact rfl | assumption)) | (apply EvW.ldFld; exact rfl; exact ScalC.eq; assumption; exact fun _ => rfl; omega; exact rfl; exact inferInstance) | (apply EvW.cmpT; exact rfl; exact rfl; exact rfl; omega) | (apply EvW.cmpF; exact rfl; exact rfl; exact rfl; omega) | (apply EvW.cmp; exact rfl; exact rfl; exact rfl) | (apply EvW.ldInt; exact rfl; exact ScalC.eq; assumption; omega) | (apply EvW.ldIntOwn; exact rfl; exact ScalC.eq; (focus ((repeat constructor); done)); omega) | (apply EvW.fldRow; exact rfl; exact FldC.eq; assumption; omega) | (apply EvW.fldOwn; exact rfl; exact FldC.eq; (focus ((repeat constructor); done)); omega) | (apply EvW.nilElemOwn; exact rfl; (focus ((repeat constructor); done)); omega) | (apply EvW.nilElemRow; exact rfl; assumption; omega) | (apply EvW.ldFldOwn; exact rfl; exact ScalC.eq; (focus ((repeat constructor); done)); exact fun _ => rfl; omega; exact rfl; exact inferInstance)))
      | refine WC.seq ?_ | refine WC.region ?_ | refine WL.nil ?_ | refine WE.next ?_ | refine WC.block ?_ | refine WC.skip ?_ | refine WC.exit ?_ | refine WE.pass ?_ | refine WE.hit ?_ | refine WE.miss rfl ?_ | refine WE.out ?_ | refine WC.condT rfl ?_ | refine WC.condF rfl ?_ | refine WC.ret ?_ | refine WE.passRet ?_ | refine WE.outRet ?_ | refine WL.wanted rfl rfl rfl ?_ | (apply WL.store; exact rfl; exact rfl; (first | assumption | exact rfl); exact SzC.eq; (first | assumption | exact rfl); (focus ((repeat constructor); done)))
    refine WE.conv (fun _ hs => St.one (hs.keep (xs := [.blk k1 [str s].toArray 9, .own 9 1 v2 (q.due ++ [s]).length ((q.due ++ [s]).map str), .blk b #[i64 (q.mode), v2, vh] 54, .own 9 1 (vh) (q.held).length ((q.held).map str)]) (by rw [List.length_append, List.map_append]; (focus ((repeat constructor); done))))) ?_
    refine WE.shutWire (vd := v2) (vh := vh) (d := q.due ++ [s]) q.p (by repeat constructor) ?_
    refine WE.keep (xs := [.own 9 1 (.slice (some ⟨k1, 0, none⟩) 1 1) 1 [str s], wireH ⟨q.p, q.mode, q.due ++ [s], q.held⟩ b]) (by repeat constructor) ?_
    refine WE.ret1 rfl rfl ?_
    rfl
  by_cases h0 : q.mode = 0
  · have e1 : inO q s = [s] := by unfold inO; rw [if_pos (.inr h0)]
    have e2 : inW q s = q := by unfold inW; rw [if_neg (by omega), if_neg (by omega)]
    rw [e1, e2]
    repeat first
      | (apply WL.q; exact rfl; exact rfl; exact rfl; (first | (apply EvW.move; exact rfl) | (apply EvW.assign; exact rfl) | (apply EvW.nilPtr; exact rfl) | (apply EvW.fieldAddr0; exact rfl; exact FldC.eq) | (apply EvW.fieldAddr; exact rfl; exact FldC.eq) | (apply EvW.load; exact rfl; exact ScalC.eq; (focus ((repeat constructor); done)); exact rfl) | (apply EvW.ldSeen; exact rfl; exact ScalC.eq; assumption; (first | exact rfl | assumption)) | (apply EvW.ldFld; exact rfl; exact ScalC.eq; assumption; exact fun _ => rfl; omega; exact rfl; exact inferInstance) | (apply EvW.cmpT; exact rfl; exact rfl; exact rfl; omega) | (apply EvW.cmpF; exact rfl; exact rfl; exact rfl; omega) | (apply EvW.cmp; exact rfl; exact rfl; exact rfl) | (apply EvW.ldInt; exact rfl; exact ScalC.eq; assumption; omega) | (apply EvW.ldIntOwn; exact rfl; exact ScalC.eq; (focus ((repeat constructor); done)); omega) | (apply EvW.fldRow; exact rfl; exact FldC.eq; assumption; omega) | (apply EvW.fldOwn; exact rfl; exact FldC.eq; (focus ((repeat constructor); done)); omega) | (apply EvW.nilElemOwn; exact rfl; (focus ((repeat constructor); done)); omega) | (apply EvW.nilElemRow; exact rfl; assumption; omega) | (apply EvW.ldFldOwn; exact rfl; exact ScalC.eq; (focus ((repeat constructor); done)); exact fun _ => rfl; omega; exact rfl; exact inferInstance)))
      | refine WC.seq ?_ | refine WC.region ?_ | refine WL.nil ?_ | refine WE.next ?_ | refine WC.block ?_ | refine WC.skip ?_ | refine WC.exit ?_ | refine WE.pass ?_ | refine WE.hit ?_ | refine WE.miss rfl ?_ | refine WE.out ?_ | refine WC.condT rfl ?_ | refine WC.condF rfl ?_ | refine WC.ret ?_ | refine WE.passRet ?_ | refine WE.outRet ?_ | refine WL.wanted rfl rfl rfl ?_ | (apply WL.store; exact rfl; exact rfl; (first | assumption | exact rfl); exact SzC.eq; (first | assumption | exact rfl); (focus ((repeat constructor); done)))
    try refine WL.wanted rfl rfl rfl ?_
    (apply WL.buildSlice; exact rfl; exact UndC.eq; exact SzC.eq; exact ZvC.eq; exact rfl; exact rfl; exact rfl; ((focus ((repeat (first | exact Flat.nil | (apply Flat.one; (first | exact rfl | assumption)) | (apply Flat.cons; exact rfl; exact rfl))); done))); exact rfl; exact rfl; intro k1)
    repeat first
      | (apply WL.q; exact rfl; exact rfl; exact rfl; (first | (apply EvW.move; exact rfl) | (apply EvW.assign; exact rfl) | (apply EvW.nilPtr; exact rfl) | (apply EvW.fieldAddr0; exact rfl; exact FldC.eq) | (apply EvW.fieldAddr; exact rfl; exact FldC.eq) | (apply EvW.load; exact rfl; exact ScalC.eq; (focus ((repeat constructor); done)); exact rfl) | (apply EvW.ldSeen; exact rfl; exact ScalC.eq; assumption; (first | exact rfl | assumption)) | (apply EvW.ldFld; exact rfl; exact ScalC.eq; assumption; exact fun _ => rfl; omega; exact rfl; exact inferInstance) | (apply EvW.cmpT; exact rfl; exact rfl; exact rfl; omega) | (apply EvW.cmpF; exact rfl; exact rfl; exact rfl; omega) | (apply EvW.cmp; exact rfl; exact rfl; exact rfl) | (apply EvW.ldInt; exact rfl; exact ScalC.eq; assumption; omega) | (apply EvW.ldIntOwn; exact rfl; exact ScalC.eq; (focus ((repeat constructor); done)); omega) | (apply EvW.fldRow; exact rfl; exact FldC.eq; assumption; omega) | (apply EvW.fldOwn; exact rfl; exact FldC.eq; (focus ((repeat constructor); done)); omega) | (apply EvW.nilElemOwn; exact rfl; (focus ((repeat constructor); done)); omega) | (apply EvW.nilElemRow; exact rfl; assumption; omega) | (apply EvW.ldFldOwn; exact rfl; exact ScalC.eq; (focus ((repeat constructor); done)); exact fun _ => rfl; omega; exact rfl; exact inferInstance)))
      | refine WC.seq ?_ | refine WC.region ?_ | refine WL.nil ?_ | refine WE.next ?_ | refine WC.block ?_ | refine WC.skip ?_ | refine WC.exit ?_ | refine WE.pass ?_ | refine WE.hit ?_ | refine WE.miss rfl ?_ | refine WE.out ?_ | refine WC.condT rfl ?_ | refine WC.condF rfl ?_ | refine WC.ret ?_ | refine WE.passRet ?_ | refine WE.outRet ?_ | refine WL.wanted rfl rfl rfl ?_ | (apply WL.store; exact rfl; exact rfl; (first | assumption | exact rfl); exact SzC.eq; (first | assumption | exact rfl); (focus ((repeat constructor); done)))
    refine WE.conv (fun _ hs => St.one hs) ?_
    refine WE.shutWire (vd := vd) (vh := vh) q.p (by repeat constructor) ?_
    refine WE.keep (xs := [.own 9 1 (.slice (some ⟨k1, 0, none⟩) 1 1) 1 [str s], wireH ⟨q.p, q.mode, q.due, q.held⟩ b]) (by repeat constructor) ?_
    refine WE.ret1 rfl rfl ?_
    rfl
  by_cases h2 : q.mode = 2
  · have e1 : inO q s = [] := by unfold inO; rw [if_neg (by omega), if_neg (by omega)]
    have e2 : inW q s = ⟨q.p, q.mode, q.due ++ [s], q.held⟩ := by unfold inW; rw [if_pos (.inr h2)]
    rw [e1, e2]
    repeat first
      | (apply WL.q; exact rfl; exact rfl; exact rfl; (first | (apply EvW.move; exact rfl) | (apply EvW.assign; exact rfl) | (apply EvW.nilPtr; exact rfl) | (apply EvW.fieldAddr0; exact rfl; exact FldC.eq) | (apply EvW.fieldAddr; exact rfl; exact FldC.eq) | (apply EvW.load; exact rfl; exact ScalC.eq; (focus ((repeat constructor); done)); exact rfl) | (apply EvW.ldSeen; exact rfl; exact ScalC.eq; assumption; (first | exact rfl | assumption)) | (apply EvW.ldFld; exact rfl; exact ScalC.eq; assumption; exact fun _ => rfl; omega; exact rfl; exact inferInstance) | (apply EvW.cmpT; exact rfl; exact rfl; exact rfl; omega) | (apply EvW.cmpF; exact rfl; exact rfl; exact rfl; omega) | (apply EvW.cmp; exact rfl; exact rfl; exact rfl) | (apply EvW.ldInt; exact rfl; exact ScalC.eq; assumption; omega) | (apply EvW.ldIntOwn; exact rfl; exact ScalC.eq; (focus ((repeat constructor); done)); omega) | (apply EvW.fldRow; exact rfl; exact FldC.eq; assumption; omega) | (apply EvW.fldOwn; exact rfl; exact FldC.eq; (focus ((repeat constructor); done)); omega) | (apply EvW.nilElemOwn; exact rfl; (focus ((repeat constructor); done)); omega) | (apply EvW.nilElemRow; exact rfl; assumption; omega) | (apply EvW.ldFldOwn; exact rfl; exact ScalC.eq; (focus ((repeat constructor); done)); exact fun _ => rfl; omega; exact rfl; exact inferInstance)))
      | refine WC.seq ?_ | refine WC.region ?_ | refine WL.nil ?_ | refine WE.next ?_ | refine WC.block ?_ | refine WC.skip ?_ | refine WC.exit ?_ | refine WE.pass ?_ | refine WE.hit ?_ | refine WE.miss rfl ?_ | refine WE.out ?_ | refine WC.condT rfl ?_ | refine WC.condF rfl ?_ | refine WC.ret ?_ | refine WE.passRet ?_ | refine WE.outRet ?_ | refine WL.wanted rfl rfl rfl ?_ | (apply WL.store; exact rfl; exact rfl; (first | assumption | exact rfl); exact SzC.eq; (first | assumption | exact rfl); (focus ((repeat constructor); done)))
    try refine WL.wanted rfl rfl rfl ?_
    (apply WL.buildSlice; exact rfl; exact UndC.eq; exact SzC.eq; exact ZvC.eq; exact rfl; exact rfl; exact rfl; ((focus ((repeat (first | exact Flat.nil | (apply Flat.one; (first | exact rfl | assumption)) | (apply Flat.cons; exact rfl; exact rfl))); done))); exact rfl; exact rfl; intro k0)
    repeat first
      | (apply WL.q; exact rfl; exact rfl; exact rfl; (first | (apply EvW.move; exact rfl) | (apply EvW.assign; exact rfl) | (apply EvW.nilPtr; exact rfl) | (apply EvW.fieldAddr0; exact rfl; exact FldC.eq) | (apply EvW.fieldAddr; exact rfl; exact FldC.eq) | (apply EvW.load; exact rfl; exact ScalC.eq; (focus ((repeat constructor); done)); exact rfl) | (apply EvW.ldSeen; exact rfl; exact ScalC.eq; assumption; (first | exact rfl | assumption)) | (apply EvW.ldFld; exact rfl; exact ScalC.eq; assumption; exact fun _ => rfl; omega; exact rfl; exact inferInstance) | (apply EvW.cmpT; exact rfl; exact rfl; exact rfl; omega) | (apply EvW.cmpF; exact rfl; exact rfl; exact rfl; omega) | (apply EvW.cmp; exact rfl; exact rfl; exact rfl) | (apply EvW.ldInt; exact rfl; exact ScalC.eq; assumption; omega) | (apply EvW.ldIntOwn; exact rfl; exact ScalC.eq; (focus ((repeat constructor); done)); omega) | (apply EvW.fldRow; exact rfl; exact FldC.eq; assumption; omega) | (apply EvW.fldOwn; exact rfl; exact FldC.eq; (focus ((repeat constructor); done)); omega) | (apply EvW.nilElemOwn; exact rfl; (focus ((repeat constructor); done)); omega) | (apply EvW.nilElemRow; exact rfl; assumption; omega) | (apply EvW.ldFldOwn; exact rfl; exact ScalC.eq; (focus ((repeat constructor); done)); exact fun _ => rfl; omega; exact rfl; exact inferInstance)))
      | refine WC.seq ?_ | refine WC.region ?_ | refine WL.nil ?_ | refine WE.next ?_ | refine WC.block ?_ | refine WC.skip ?_ | refine WC.exit ?_ | refine WE.pass ?_ | refine WE.hit ?_ | refine WE.miss rfl ?_ | refine WE.out ?_ | refine WC.condT rfl ?_ | refine WC.condF rfl ?_ | refine WC.ret ?_ | refine WE.passRet ?_ | refine WE.outRet ?_ | refine WL.wanted rfl rfl rfl ?_ | (apply WL.store; exact rfl; exact rfl; (first | assumption | exact rfl); exact SzC.eq; (first | assumption | exact rfl); (focus ((repeat constructor); done)))
    try refine WL.wanted rfl rfl rfl ?_
    (apply WL.append; exact rfl; exact rfl; exact rfl; exact UndC.eq; exact SzC.eq; exact ByC.eq; exact ZvC.eq; exact rfl; (first | exact notInt_sl UndC.eq | exact notInt_st UndC.eq); exact rfl; (focus ((repeat constructor); done)))
    · exact adds_blk .head rfl rfl
    · (omega)
    intro v2
    (first | refine WL.slOwn (v := v2) (by repeat constructor) ?_ | refine WC.slOwn (v := v2) (by repeat constructor) ?_)
    intro hc_v2 ho_v2
    repeat first
      | (apply WL.q; exact rfl; exact rfl; exact rfl; (first | (apply EvW.move; exact rfl) | (apply EvW.assign; exact rfl) | (apply EvW.nilPtr; exact rfl) | (apply EvW.fieldAddr0; exact rfl; exact FldC.eq) | (apply EvW.fieldAddr; exact rfl; exact FldC.eq) | (apply EvW.load; exact rfl; exact ScalC.eq; (focus ((repeat constructor); done)); exact rfl) | (apply EvW.ldSeen; exact rfl; exact ScalC.eq; assumption; (first | exact rfl | assumption)) | (apply EvW.ldFld; exact rfl; exact ScalC.eq; assumption; exact fun _ => rfl; omega; exact rfl; exact inferInstance) | (apply EvW.cmpT; exact rfl; exact rfl; exact rfl; omega) | (apply EvW.cmpF; exact rfl; exact rfl; exact rfl; omega) | (apply EvW.cmp; exact rfl; exact rfl; exact rfl) | (apply EvW.ldInt; exact rfl; exact ScalC.eq; assumption; omega) | (apply EvW.ldIntOwn; exact rfl; exact ScalC.eq; (focus ((repeat constructor); done)); omega) | (apply EvW.fldRow; exact rfl; exact FldC.eq; assumption; omega) | (apply EvW.fldOwn; exact rfl; exact FldC.eq; (focus ((repeat constructor); done)); omega) | (apply EvW.nilElemOwn; exact rfl; (focus ((repeat constructor); done)); omega) | (apply EvW.nilElemRow; exact rfl; assumption; omega) | (apply EvW.ldFldOwn; exact rfl; exact ScalC.eq; (focus ((repeat constructor); done)); exact fun _ => rfl; omega; exact rfl; exact inferInstance)))
      | refine WC.seq ?_ | refine WC.region ?_ | refine WL.nil ?_ | refine WE.next ?_ | refine WC.block ?_ | refine WC.skip ?_ | refine WC.exit ?_ | refine WE.pass ?_ | refine WE.hit ?_ | refine WE.miss rfl ?_ | refine WE.out ?_ | refine WC.condT rfl ?_ | refine WC.condF rfl ?_ | refine WC.ret ?_ | refine WE.passRet ?_ | refine WE.outRet ?_ | refine WL.wanted rfl rfl rfl ?_ | (apply WL.store; exact rfl; exact rfl; (first | assumption | exact rfl); exact SzC.eq; (first | assumption | exact rfl); (focus ((repeat constructor); done)))
    refine WE.conv (fun _ hs => (hs.keep (xs := [.own 9 1 v2 (q.due ++ [s]).length ((q.due ++ [s]).map str), .blk b #[i64 (q.mode), v2, vh] 54, .own 9 1 (vh) (q.held).length ((q.held).map str)]) (by rw [List.length_append, List.map_append]; (focus ((repeat constructor); done)))).ownNil (e := 9) (sz := 1)) ?_
    refine WE.shutWire (vd := v2) (vh := vh) (d := q.due ++ [s]) q.p (by repeat constructor) ?_
    refine WE.keep (xs := [.own 9 1 (.slice none 0 0) 0 [], wireH ⟨q.p, q.mode, q.due ++ [s], q.held⟩ b]) (by repeat constructor) ?_
    refine WE.ret1 rfl rfl ?_
    rfl
  by_cases h4 : q.mode = 4
  · have e1 : inO q s = [spoilF s] := by unfold inO; rw [if_neg (by omega), if_pos h4]
    have e2 : inW q s = q := by unfold inW; rw [if_neg (by omega), if_neg (by omega)]
    rw [e1, e2]
    repeat first
      | (apply WL.q; exact rfl; exact rfl; exact rfl; (first | (apply EvW.move; exact rfl) | (apply EvW.assign; exact rfl) | (apply EvW.nilPtr; exact rfl) | (apply EvW.fieldAddr0; exact rfl; exact FldC.eq) | (apply EvW.fieldAddr; exact rfl; exact FldC.eq) | (apply EvW.load; exact rfl; exact ScalC.eq; (focus ((repeat constructor); done)); exact rfl) | (apply EvW.ldSeen; exact rfl; exact ScalC.eq; assumption; (first | exact rfl | assumption)) | (apply EvW.ldFld; exact rfl; exact ScalC.eq; assumption; exact fun _ => rfl; omega; exact rfl; exact inferInstance) | (apply EvW.cmpT; exact rfl; exact rfl; exact rfl; omega) | (apply EvW.cmpF; exact rfl; exact rfl; exact rfl; omega) | (apply EvW.cmp; exact rfl; exact rfl; exact rfl) | (apply EvW.ldInt; exact rfl; exact ScalC.eq; assumption; omega) | (apply EvW.ldIntOwn; exact rfl; exact ScalC.eq; (focus ((repeat constructor); done)); omega) | (apply EvW.fldRow; exact rfl; exact FldC.eq; assumption; omega) | (apply EvW.fldOwn; exact rfl; exact FldC.eq; (focus ((repeat constructor); done)); omega) | (apply EvW.nilElemOwn; exact rfl; (focus ((repeat constructor); done)); omega) | (apply EvW.nilElemRow; exact rfl; assumption; omega) | (apply EvW.ldFldOwn; exact rfl; exact ScalC.eq; (focus ((repeat constructor); done)); exact fun _ => rfl; omega; exact rfl; exact inferInstance)))
      | refine WC.seq ?_ | refine WC.region ?_ | refine WL.nil ?_ | refine WE.next ?_ | refine WC.block ?_ | refine WC.skip ?_ | refine WC.exit ?_ | refine WE.pass ?_ | refine WE.hit ?_ | refine WE.miss rfl ?_ | refine WE.out ?_ | refine WC.condT rfl ?_ | refine WC.condF rfl ?_ | refine WC.ret ?_ | refine WE.passRet ?_ | refine WE.outRet ?_ | refine WL.wanted rfl rfl rfl ?_ | (apply WL.store; exact rfl; exact rfl; (first | assumption | exact rfl); exact SzC.eq; (first | assumption | exact rfl); (focus ((repeat constructor); done)))
    try refine WL.wanted rfl rfl rfl ?_
    apply WL.callA ([])
    · exact rfl
    · exact rfl
    · exact fun w => Try.call31 _ w
    · (focus ((repeat constructor); done))
    · exact fun w1 S1 hS1 hs1 ho1 => spoilt_spec s w1 S1 hS1 hs0
    rintro _ _ ⟨rfl, rfl⟩
    first | refine WL.app4 ?_ | refine WL.app3 ?_ | refine WL.app2 ?_ | refine WL.app1 ?_ | refine WL.app0 ?_ | skip
    repeat first
      | (apply WL.q; exact rfl; exact rfl; exact rfl; (first | (apply EvW.move; exact rfl) | (apply EvW.assign; exact rfl) | (apply EvW.nilPtr; exact rfl) | (apply EvW.fieldAddr0; exact rfl; exact FldC.eq) | (apply EvW.fieldAddr; exact rfl; exact FldC.eq) | (apply EvW.load; exact rfl; exact ScalC.eq; (focus ((repeat constructor); done)); exact rfl) | (apply EvW.ldSeen; exact rfl; exact ScalC.eq; assumption; (first | exact rfl | assumption)) | (apply EvW.ldFld; exact rfl; exact ScalC.eq; assumption; exact fun _ => rfl; omega; exact rfl; exact inferInstance) | (apply EvW.cmpT; exact rfl; exact rfl; exact rfl; omega) | (apply EvW.cmpF; exact rfl; exact rfl; exact rfl; omega) | (apply EvW.cmp; exact rfl; exact rfl; exact rfl) | (apply EvW.ldInt; exact rfl; exact ScalC.eq; assumption; omega) | (apply EvW.ldIntOwn; exact rfl; exact ScalC.eq; (focus ((repeat constructor); done)); omega) | (apply EvW.fldRow; exact rfl; exact FldC.eq; assumption; omega) | (apply EvW.fldOwn; exact rfl; exact FldC.eq; (focus ((repeat constructor); done)); omega) | (apply EvW.nilElemOwn; exact rfl; (focus ((repeat constructor); done)); omega) | (apply EvW.nilElemRow; exact rfl; assumption; omega) | (apply EvW.ldFldOwn; exact rfl; exact ScalC.eq; (focus ((repeat constructor); done)); exact fun _ => rfl; omega; exact rfl; exact inferInstance)))
      | refine WC.seq ?_ | refine WC.region ?_ | refine WL.nil ?_ | refine WE.next ?_ | refine WC.block ?_ | refine WC.skip ?_ | refine WC.exit ?_ | refine WE.pass ?_ | refine WE.hit ?_ | refine WE.miss rfl ?_ | refine WE.out ?_ | refine WC.condT rfl ?_ | refine WC.condF rfl ?_ | refine WC.ret ?_ | refine WE.passRet ?_ | refine WE.outRet ?_ | refine WL.wanted rfl rfl rfl ?_ | (apply WL.store; exact rfl; exact rfl; (first | assumption | exact rfl); exact SzC.eq; (first | assumption | exact rfl); (focus ((repeat constructor); done)))
    try refine WL.wanted rfl rfl rfl ?_
    (apply WL.buildSlice; exact rfl; exact UndC.eq; exact SzC.eq; exact ZvC.eq; exact rfl; exact rfl; exact rfl; ((focus ((repeat (first | exact Flat.nil | (apply Flat.one; (first | exact rfl | assumption)) | (apply Flat.cons; exact rfl; exact rfl))); done))); exact rfl; exact rfl; intro k1)
    repeat first
      | (apply WL.q; exact rfl; exact rfl; exact rfl; (first | (apply EvW.move; exact rfl) | (apply EvW.assign; exact rfl) | (apply EvW.nilPtr; exact rfl) | (apply EvW.fieldAddr0; exact rfl; exact FldC.eq) | (apply EvW.fieldAddr; exact rfl; exact FldC.eq) | (apply EvW.load; exact rfl; exact ScalC.eq; (focus ((repeat constructor); done)); exact rfl) | (apply EvW.ldSeen; exact rfl; exact ScalC.eq; assumption; (first | exact rfl | assumption)) | (apply EvW.ldFld; exact rfl; exact ScalC.eq; assumption; exact fun _ => rfl; omega; exact rfl; exact inferInstance) | (apply EvW.cmpT; exact rfl; exact rfl; exact rfl; omega) | (apply EvW.cmpF; exact rfl; exact rfl; exact rfl; omega) | (apply EvW.cmp; exact rfl; exact rfl; exact rfl) | (apply EvW.ldInt; exact rfl; exact ScalC.eq; assumption; omega) | (apply EvW.ldIntOwn; exact rfl; exact ScalC.eq; (focus ((repeat constructor); done)); omega) | (apply EvW.fldRow; exact rfl; exact FldC.eq; assumption; omega) | (apply EvW.fldOwn; exact rfl; exact FldC.eq; (focus ((repeat constructor); done)); omega) | (apply EvW.nilElemOwn; exact rfl; (focus ((repeat constructor); done)); omega) | (apply EvW.nilElemRow; exact rfl; assumption; omega) | (apply EvW.ldFldOwn; exact rfl; exact ScalC.eq; (focus ((repeat constructor); done)); exact fun _ => rfl; omega; exact rfl; exact inferInstance)))
      | refine WC.seq ?_ | refine WC.region ?_ | refine WL.nil ?_ | refine WE.next ?_ | refine WC.block ?_ | refine WC.skip ?_ | refine WC.exit ?_ | refine WE.pass ?_ | refine WE.hit ?_ | refine WE.miss rfl ?_ | refine WE.out ?_ | refine WC.condT rfl ?_ | refine WC.condF rfl ?_ | refine WC.ret ?_ | refine WE.passRet ?_ | refine WE.outRet ?_ | refine WL.wanted rfl rfl rfl ?_ | (apply WL.store; exact rfl; exact rfl; (first | assumption | exact rfl); exact SzC.eq; (first | assumption | exact rfl); (focus ((repeat constructor); done)))
    refine WE.conv (fun _ hs => St.one hs) ?_
    refine WE.shutWire (vd := vd) (vh := vh) q.p (by repeat constructor) ?_
    refine WE.keep (xs := [.own 9 1 (.slice (some ⟨k1, 0, none⟩) 1 1) 1 [str (spoilF s)], wireH ⟨q.p, q.mode, q.due, q.held⟩ b]) (by repeat constructor) ?_
    refine WE.ret1 rfl rfl ?_
    rfl
  have e1 : inO q s = [] := by unfold inO; rw [if_neg (by omega), if_neg h4]
  by_cases h5 : q.mode = 5
  · have e2 : inW q s = ⟨q.p, q.mode, q.due, q.held ++ [s]⟩ := by unfold inW; rw [if_neg (by omega), if_pos h5]
    rw [e1, e2]
    repeat first
      | (apply WL.q; exact rfl; exact rfl; exact rfl; (first | (apply EvW.move; exact rfl) | (apply EvW.assign; exact rfl) | (apply EvW.nilPtr; exact rfl) | (apply EvW.fieldAddr0; exact rfl; exact FldC.eq) | (apply EvW.fieldAddr; exact rfl; exact FldC.eq) | (apply EvW.load; exact rfl; exact ScalC.eq; (focus ((repeat constructor); done)); exact rfl) | (apply EvW.ldSeen; exact rfl; exact ScalC.eq; assumption; (first | exact rfl | assumption)) | (apply EvW.ldFld; exact rfl; exact ScalC.eq; assumption; exact fun _ => rfl; omega; exact rfl; exact inferInstance) | (apply EvW.cmpT; exact rfl; exact rfl; exact rfl; omega) | (apply EvW.cmpF; exact rfl; exact rfl; exact rfl; omega) | (apply EvW.cmp; exact rfl; exact rfl; exact rfl) | (apply EvW.ldInt; exact rfl; exact ScalC.eq; assumption; omega) | (apply EvW.ldIntOwn; exact rfl; exact ScalC.eq; (focus ((repeat constructor); done)); omega) | (apply EvW.fldRow; exact rfl; exact FldC.eq; assumption; omega) | (apply EvW.fldOwn; exact rfl; exact FldC.eq; (focus ((repeat constructor); done)); omega) | (apply EvW.nilElemOwn; exact rfl; (focus ((repeat constructor); done)); omega) | (apply EvW.nilElemRow; exact rfl; assumption; omega) | (apply EvW.ldFldOwn; exact rfl; exact ScalC.eq; (focus ((repeat constructor); done)); exact fun _ => rfl; omega; exact rfl; exact inferInstance)))
      | refine WC.seq ?_ | refine WC.region ?_ | refine WL.nil ?_ | refine WE.next ?_ | refine WC.block ?_ | refine WC.skip ?_ | refine WC.exit ?_ | refine WE.pass ?_ | refine WE.hit ?_ | refine WE.miss rfl ?_ | refine WE.out ?_ | refine WC.condT rfl ?_ | refine WC.condF rfl ?_ | refine WC.ret ?_ | refine WE.passRet ?_ | refine WE.outRet ?_ | refine WL.wanted rfl rfl rfl ?_ | (apply WL.store; exact rfl; exact rfl; (first | assumption | exact rfl); exact SzC.eq; (first | assumption | exact rfl); (focus ((repeat constructor); done)))
    try refine WL.wanted rfl rfl rfl ?_
    (apply WL.buildSlice; exact rfl; exact UndC.eq; exact SzC.eq; exact ZvC.eq; exact rfl; exact rfl; exact rfl; ((focus ((repeat (first | exact Flat.nil | (apply Flat.one; (first | exact rfl | assumption)) | (apply Flat.cons; exact rfl; exact rfl))); done))); exact rfl; exact rfl; intro k0)
    repeat first
      | (apply WL.q; exact rfl; exact rfl; exact rfl; (first | (apply EvW.move; exact rfl) | (apply EvW.assign; exact rfl) | (apply EvW.nilPtr; exact rfl) | (apply EvW.fieldAddr0; exact rfl; exact FldC.eq) | (apply EvW.fieldAddr; exact rfl; exact FldC.eq) | (apply EvW.load; exact rfl; exact ScalC.eq; (focus ((repeat constructor); done)); exact rfl) | (apply EvW.ldSeen; exact rfl; exact ScalC.eq; assumption; (first | exact rfl | assumption)) | (apply EvW.ldFld; exact rfl; exact ScalC.eq; assumption; exact fun _ => rfl; omega; exact rfl; exact inferInstance) | (apply EvW.cmpT; exact rfl; exact rfl; exact rfl; omega) | (apply EvW.cmpF; exact rfl; exact rfl; exact rfl; omega) | (apply EvW.cmp; exact rfl; exact rfl; exact rfl) | (apply EvW.ldInt; exact rfl; exact ScalC.eq; assumption; omega) | (apply EvW.ldIntOwn; exact rfl; exact ScalC.eq; (focus ((repeat constructor); done)); omega) | (apply EvW.fldRow; exact rfl; exact FldC.eq; assumption; omega) | (apply EvW.fldOwn; exact rfl; exact FldC.eq; (focus ((repeat constructor); done)); omega) | (apply EvW.nilElemOwn; exact rfl; (focus ((repeat constructor); done)); omega) | (apply EvW.nilElemRow; exact rfl; assumption; omega) | (apply EvW.ldFldOwn; exact rfl; exact ScalC.eq; (focus ((repeat constructor); done)); exact fun _ => rfl; omega; exact rfl; exact inferInstance)))
      | refine WC.seq ?_ | refine WC.region ?_ | refine WL.nil ?_ | refine WE.next ?_ | refine WC.block ?_ | refine WC.skip ?_ | refine WC.exit ?_ | refine WE.pass ?_ | refine WE.hit ?_ | refine WE.miss rfl ?_ | refine WE.out ?_ | refine WC.condT rfl ?_ | refine WC.condF rfl ?_ | refine WC.ret ?_ | refine WE.passRet ?_ | refine WE.outRet ?_ | refine WL.wanted rfl rfl rfl ?_ | (apply WL.store; exact rfl; exact rfl; (first | assumption | exact rfl); exact SzC.eq; (first | assumption | exact rfl); (focus ((repeat constructor); done)))
    try refine WL.wanted rfl rfl rfl ?_
    (apply WL.append; exact rfl; exact rfl; exact rfl; exact UndC.eq; exact SzC.eq; exact ByC.eq; exact ZvC.eq; exact rfl; (first | exact notInt_sl UndC.eq | exact notInt_st UndC.eq); exact rfl; (focus ((repeat constructor); done)))
    · exact adds_blk .head rfl rfl
    · (omega)
    intro v2
    (first | refine WL.slOwn (v := v2) (by repeat constructor) ?_ | refine WC.slOwn (v := v2) (by repeat constructor) ?_)
    intro hc_v2 ho_v2
    repeat first
      | (apply WL.q; exact rfl; exact rfl; exact rfl; (first | (apply EvW.move; exact rfl) | (apply EvW.assign; exact rfl) | (apply EvW.nilPtr; exact rfl) | (apply EvW.fieldAddr0; exact rfl; exact FldC.eq) | (apply EvW.fieldAddr; exact rfl; exact FldC.eq) | (apply EvW.load; exact rfl; exact ScalC.eq; (focus ((repeat constructor); done)); exact rfl) | (apply EvW.ldSeen; exact rfl; exact ScalC.eq; assumption; (first | exact rfl | assumption)) | (apply EvW.ldFld; exact rfl; exact ScalC.eq; assumption; exact fun _ => rfl; omega; exact rfl; exact inferInstance) | (apply EvW.cmpT; exact rfl; exact rfl; exact rfl; omega) | (apply EvW.cmpF; exact rfl; exact rfl; exact rfl; omega) | (apply EvW.cmp; exact rfl; exact rfl; exact rfl) | (apply EvW.ldInt; exact rfl; exact ScalC.eq; assumption; omega) | (apply EvW.ldIntOwn; exact rfl; exact ScalC.eq; (focus ((repeat constructor); done)); omega) | (apply EvW.fldRow; exact rfl; exact FldC.eq; assumption; omega) | (apply EvW.fldOwn; exact rfl; exact FldC.eq; (focus ((repeat constructor); done)); omega) | (apply EvW.nilElemOwn; exact rfl; (focus ((repeat constructor); done)); omega) | (apply EvW.nilElemRow; exact rfl; assumption; omega) | (apply EvW.ldFldOwn; exact rfl; exact ScalC.eq; (focus ((repeat constructor); done)); exact fun _ => rfl; omega; exact rfl; exact inferInstance)))
      | refine WC.seq ?_ | refine WC.region ?_ | refine WL.nil ?_ | refine WE.next ?_ | refine WC.block ?_ | refine WC.skip ?_ | refine WC.exit ?_ | refine WE.pass ?_ | refine WE.hit ?_ | refine WE.miss rfl ?_ | refine WE.out ?_ | refine WC.condT rfl ?_ | refine WC.condF rfl ?_ | refine WC.ret ?_ | refine WE.passRet ?_ | refine WE.outRet ?_ | refine WL.wanted rfl rfl rfl ?_ | (apply WL.store; exact rfl; exact rfl; (first | assumption | exact rfl); exact SzC.eq; (first | assumption | exact rfl); (focus ((repeat constructor); done)))
    refine WE.conv (fun _ hs => (hs.keep (xs := [.own 9 1 v2 (q.held ++ [s]).length ((q.held ++ [s]).map str), .blk b #[i64 (q.mode), vd, v2] 54, .own 9 1 (vd) (q.due).length ((q.due).map str)]) (by rw [List.length_append, List.map_append]; (focus ((repeat constructor); done)))).ownNil (e := 9) (sz := 1)) ?_
    refine WE.shutWire (vd := vd) (vh := v2) (h := q.held ++ [s]) q.p (by repeat constructor) ?_
    refine WE.keep (xs := [.own 9 1 (.slice none 0 0) 0 [], wireH ⟨q.p, q.mode, q.due, q.held ++ [s]⟩ b]) (by repeat constructor) ?_
    refine WE.ret1 rfl rfl ?_
    rfl
  · have e2 : inW q s = q := by unfold inW; rw [if_neg (by omega), if_neg h5]
    rw [e1, e2]
    repeat first
      | (apply WL.q; exact rfl; exact rfl; exact rfl; (first | (apply EvW.move; exact rfl) | (apply EvW.assign; exact rfl) | (apply EvW.nilPtr; exact rfl) | (apply EvW.fieldAddr0; exact rfl; exact FldC.eq) | (apply EvW.fieldAddr; exact rfl; exact FldC.eq) | (apply EvW.load; exact rfl; exact ScalC.eq; (focus ((repeat constructor); done)); exact rfl) | (apply EvW.ldSeen; exact rfl; exact ScalC.eq; assumption; (first | exact rfl | assumption)) | (apply EvW.ldFld; exact rfl; exact ScalC.eq; assumption; exact fun _ => rfl; omega; exact rfl; exact inferInstance) | (apply EvW.cmpT; exact rfl; exact rfl; exact rfl; omega) | (apply EvW.cmpF; exact rfl; exact rfl; exact rfl; omega) | (apply EvW.cmp; exact rfl; exact rfl; exact rfl) | (apply EvW.ldInt; exact rfl; exact ScalC.eq; assumption; omega) | (apply EvW.ldIntOwn; exact rfl; exact ScalC.eq; (focus ((repeat constructor); done)); omega) | (apply EvW.fldRow; exact rfl; exact FldC.eq; assumption; omega) | (apply EvW.fldOwn; exact rfl; exact FldC.eq; (focus ((repeat constructor); done)); omega) | (apply EvW.nilElemOwn; exact rfl; (focus ((repeat constructor); done)); omega) | (apply EvW.nilElemRow; exact rfl; assumption; omega) | (apply EvW.ldFldOwn; exact rfl; exact ScalC.eq; (focus ((repeat constructor); done)); exact fun _ => rfl; omega; exact rfl; exact inferInstance)))
      | refine WC.seq ?_ | refine WC.region ?_ | refine WL.nil ?_ | refine WE.next ?_ | refine WC.block ?_ | refine WC.skip ?_ | refine WC.exit ?_ | refine WE.pass ?_ | refine WE.hit ?_ | refine WE.miss rfl ?_ | refine WE.out ?_ | refine WC.condT rfl ?_ | refine WC.condF rfl ?_ | refine WC.ret ?_ | refine WE.passRet ?_ | refine WE.outRet ?_ | refine WL.wanted rfl rfl rfl ?_ | (apply WL.store; exact rfl; exact rfl; (first | assumption | exact rfl); exact SzC.eq; (first | assumption | exact rfl); (focus ((repeat constructor); done)))
    refine WE.conv (fun _ hs => hs.ownNil (e := 9) (sz := 1)) ?_
    refine WE.shutWire (vd := vd) (vh := vh) q.p (by repeat constructor) ?_
    refine WE.keep (xs := [.own 9 1 (.slice none 0 0) 0 [], wireH ⟨q.p, q.mode, q.due, q.held⟩ b]) (by repeat constructor) ?_
    refine WE.ret1 rfl rfl ?_
    rfl
end Go.Proofs.Ytoaajdmacngnjaa
namespace Go.Proofs.Ytoaajdmacngnjaa
open Go.RowKit Go.BK
abbrev Zs := List (Wr × Nat)
def kv (z : Wr × Nat) : Int × Value := (z.1.p, ptr z.2 0)
def wz (z : Wr × Nat) : HP := wireH z.1 z.2
def newW (p : Int) : Wr := ⟨p, 0, [], []⟩
/-- Where a peer's wire stands. -/
def ixW : List Wr → Int → Nat
  | [], _ => 0
  | q :: r, p => if p = q.p then 0 else ixW r p + 1
def ofF (xs : List Wr) (p : Int) : List Wr := if ixW xs p < xs.length then xs else xs ++ [newW p]
def ofZ (zs : Zs) (p : Int) (b : Nat) : Zs := if ixW (zs.map (·.1)) p < zs.length then zs else zs ++ [(newW p, b)]
theorem ixW_le : ∀ (xs : List Wr) (p : Int), ixW xs p ≤ xs.length
  | [], _ => Nat.le_refl _
  | q :: r, p => by
    unfold ixW
    split
    · exact Nat.zero_le _
    · exact Nat.succ_le_succ (ixW_le r p)
theorem ofZ_fst (zs : Zs) (p : Int) (b : Nat) : (ofZ zs p b).map (·.1) = ofF (zs.map (·.1)) p := by
  unfold ofZ ofF
  rw [List.length_map]
  split
  · rfl
  · rw [List.map_append]; rfl
theorem mget_kv (p : Int) : ∀ zs : Zs, mget p (zs.map kv) = if ixW (zs.map (·.1)) p < zs.length then some (ptr (zs.getD (ixW (zs.map (·.1)) p) default).2 0) else none
  | [] => rfl
  | z :: r => by
    rw [List.map_cons, List.map_cons]
    unfold mget ixW
    by_cases h : p = z.1.p
    · rw [if_pos (show p = (kv z).1 from h), if_pos h, if_pos (by simp)]; rfl
    · rw [if_neg (show ¬ p = (kv z).1 from h), if_neg h, mget_kv p r]
      by_cases h2 : ixW (r.map (·.1)) p < r.length
      · rw [if_pos h2, if_pos (by simp only [List.length_cons]; omega)]
        rw [List.getD_cons_succ]
      · rw [if_neg h2, if_neg (by simp only [List.length_cons]; omega)]
theorem mput_kv (p : Int) (b : Nat) : ∀ zs : Zs, ¬ ixW (zs.map (·.1)) p < zs.length → mput p (ptr b 0) (zs.map kv) = (zs ++ [(newW p, b)]).map kv
  | [], _ => rfl
  | z :: r, h => by
    rw [List.map_cons, List.cons_append, List.map_cons]
    rw [List.map_cons] at h
    unfold mput
    unfold ixW at h
    by_cases h1 : p = z.1.p
    · rw [if_pos h1] at h; exact absurd (by simp) h
    · rw [if_neg h1] at h
      rw [if_neg (show ¬ p = (kv z).1 from h1), mput_kv p b r (by simp only [List.length_cons] at h; omega)]
theorem ixW_last (zs : Zs) (p : Int) (b : Nat) (h : ¬ ixW (zs.map (·.1)) p < zs.length) : (zs ++ [(newW p, b)]).getD (ixW (zs.map (·.1)) p) default = (newW p, b) := by
  have h1 := ixW_le (zs.map (·.1)) p
  rw [List.length_map] at h1
  have e : ixW (zs.map (·.1)) p = zs.length := by omega
  rw [e, List.getD_eq_getElem?_getD, List.getElem?_append_right (Nat.le_refl _), Nat.sub_self]
  rfl
theorem of_spec (zs : Zs) (wb mb : Nat) (p : Int) (w : World) (S : BSet) (hS : (sepL [.blk wb #[.map (some mb)] 50, .tmap mb ((zs).map kv), sepL ((zs).map wz)]).sat S w)  :
    Tri Try.prog 19 #[ptr wb 0, i64 p] w S fun u A => ∃ b : Nat, u = ptr ((ofZ zs p b).getD (ixW (zs.map (·.1)) p) default).2 0 ∧ A = [.blk wb #[.map (some mb)] 50, .tmap mb ((ofZ zs p b).map kv), sepL ((ofZ zs p b).map wz)] := by
  refine Tri.enter (l := [ptr wb 0, i64 p]) Try.func19 rfl Try.ntmps19 rfl [(0, ptr wb 0), (1, i64 p)] (subA rfl) hS ?_
  by_cases h : ixW (zs.map (·.1)) p < zs.length
  · have e : mget p (zs.map kv) = some (ptr (zs.getD (ixW (zs.map (·.1)) p) default).2 0) := by rw [mget_kv, if_pos h]
    have e2 : ∀ b, ofZ zs p b = zs := fun b => by unfold ofZ; rw [if_pos h]
    obtain ⟨bb, hb⟩ : ∃ bb, (zs.getD (ixW (zs.map (·.1)) p) default).2 = bb := ⟨_, rfl⟩
    rw [hb] at e
    repeat first
      | (apply WL.q; exact rfl; exact rfl; exact rfl; (first | (apply EvW.move; exact rfl) | (apply EvW.assign; exact rfl) | (apply EvW.nilPtr; exact rfl) | (apply EvW.fieldAddr0; exact rfl; exact FldC.eq) | (apply EvW.fieldAddr; exact rfl; exact FldC.eq) | (apply EvW.load; exact rfl; exact ScalC.eq; (focus ((repeat constructor); done)); exact rfl) | (apply EvW.ldSeen; exact rfl; exact ScalC.eq; assumption; (first | exact rfl | assumption)) | (apply EvW.ldFld; exact rfl; exact ScalC.eq; assumption; exact fun _ => rfl; omega; exact rfl; exact inferInstance) | (apply EvW.build; exact PlC.eq; exact ZvC.eq; exact rfl; exact rfl; (focus ((repeat (first | exact Fills.nil | (apply Fills.cons; exact rfl; (first | assumption | exact rfl); exact rfl) | exact SetMany.nil | apply SetMany.cons | apply SetMany.succ)); done))) | (apply EvW.peqN; exact rfl; exact rfl; exact UndC.eq) | (apply EvW.fldRow; exact rfl; exact FldC.eq; assumption; omega) | (apply EvW.fldOwn; exact rfl; exact FldC.eq; (focus ((repeat constructor); done)); omega) | (apply EvW.nilElemOwn; exact rfl; (focus ((repeat constructor); done)); omega) | (apply EvW.nilElemRow; exact rfl; assumption; omega) | (apply EvW.ldFldOwn; exact rfl; exact ScalC.eq; (focus ((repeat constructor); done)); exact fun _ => rfl; omega; exact rfl; exact inferInstance) | (apply EvW.lookup; exact rfl; exact rfl; exact UndC.eq; exact UndC.eq; exact ZvC.eq; (focus ((repeat constructor); done))) | (apply EvW.lookupOk; exact rfl; exact rfl; exact UndC.eq; exact UndC.eq; exact ZvC.eq; (focus ((repeat constructor); done))) | (apply EvW.lookupT; exact rfl; exact rfl; exact UndC.eq; exact UndC.eq; exact ZvC.eq; (focus ((repeat constructor); done)))))
      | refine WC.seq ?_ | refine WC.region ?_ | refine WL.nil ?_ | refine WE.next ?_ | refine WC.skip ?_ | refine WC.exit ?_ | refine WE.pass ?_ | refine WE.hit ?_ | refine WE.miss rfl ?_ | refine WE.out ?_ | refine WC.condT rfl ?_ | refine WC.condF rfl ?_ | refine WC.ret ?_ | refine WE.passRet ?_ | refine WE.outRet ?_ | refine WL.wanted rfl rfl rfl ?_ | (apply WL.mapUpdate; exact rfl; exact rfl; exact rfl; exact UndC.eq; exact UndC.eq; (focus ((repeat (first | apply UpdM.head | apply UpdM.tail)); done)))
    rw [e]
    dsimp only [Option.getD_some]
    repeat first
      | (apply WL.q; exact rfl; exact rfl; exact rfl; (first | (apply EvW.move; exact rfl) | (apply EvW.assign; exact rfl) | (apply EvW.nilPtr; exact rfl) | (apply EvW.fieldAddr0; exact rfl; exact FldC.eq) | (apply EvW.fieldAddr; exact rfl; exact FldC.eq) | (apply EvW.load; exact rfl; exact ScalC.eq; (focus ((repeat constructor); done)); exact rfl) | (apply EvW.ldSeen; exact rfl; exact ScalC.eq; assumption; (first | exact rfl | assumption)) | (apply EvW.ldFld; exact rfl; exact ScalC.eq; assumption; exact fun _ => rfl; omega; exact rfl; exact inferInstance) | (apply EvW.build; exact PlC.eq; exact ZvC.eq; exact rfl; exact rfl; (focus ((repeat (first | exact Fills.nil | (apply Fills.cons; exact rfl; (first | assumption | exact rfl); exact rfl) | exact SetMany.nil | apply SetMany.cons | apply SetMany.succ)); done))) | (apply EvW.peqN; exact rfl; exact rfl; exact UndC.eq) | (apply EvW.fldRow; exact rfl; exact FldC.eq; assumption; omega) | (apply EvW.fldOwn; exact rfl; exact FldC.eq; (focus ((repeat constructor); done)); omega) | (apply EvW.nilElemOwn; exact rfl; (focus ((repeat constructor); done)); omega) | (apply EvW.nilElemRow; exact rfl; assumption; omega) | (apply EvW.ldFldOwn; exact rfl; exact ScalC.eq; (focus ((repeat constructor); done)); exact fun _ => rfl; omega; exact rfl; exact inferInstance) | (apply EvW.lookup; exact rfl; exact rfl; exact UndC.eq; exact UndC.eq; exact ZvC.eq; (focus ((repeat constructor); done))) | (apply EvW.lookupOk; exact rfl; exact rfl; exact UndC.eq; exact UndC.eq; exact ZvC.eq; (focus ((repeat constructor); done))) | (apply EvW.lookupT; exact rfl; exact rfl; exact UndC.eq; exact UndC.eq; exact ZvC.eq; (focus ((repeat constructor); done)))))
      | refine WC.seq ?_ | refine WC.region ?_ | refine WL.nil ?_ | refine WE.next ?_ | refine WC.skip ?_ | refine WC.exit ?_ | refine WE.pass ?_ | refine WE.hit ?_ | refine WE.miss rfl ?_ | refine WE.out ?_ | refine WC.condT rfl ?_ | refine WC.condF rfl ?_ | refine WC.ret ?_ | refine WE.passRet ?_ | refine WE.outRet ?_ | refine WL.wanted rfl rfl rfl ?_ | (apply WL.mapUpdate; exact rfl; exact rfl; exact rfl; exact UndC.eq; exact UndC.eq; (focus ((repeat (first | apply UpdM.head | apply UpdM.tail)); done)))
    rw [e]
    dsimp only [Option.getD_some]
    refine WE.keep (xs := [.blk wb #[.map (some mb)] 50, .tmap mb ((zs).map kv), sepL ((zs).map wz)]) (by repeat constructor) ?_
    refine WE.ret1 rfl rfl ?_
    refine ⟨0, ?_, ?_⟩
    · rw [e2, hb]
    · rw [e2]
  · have e : mget p (zs.map kv) = none := by rw [mget_kv, if_neg h]
    have e2 : ∀ b, ofZ zs p b = zs ++ [(newW p, b)] := fun b => by unfold ofZ; rw [if_neg h]
    repeat first
      | (apply WL.q; exact rfl; exact rfl; exact rfl; (first | (apply EvW.move; exact rfl) | (apply EvW.assign; exact rfl) | (apply EvW.nilPtr; exact rfl) | (apply EvW.fieldAddr0; exact rfl; exact FldC.eq) | (apply EvW.fieldAddr; exact rfl; exact FldC.eq) | (apply EvW.load; exact rfl; exact ScalC.eq; (focus ((repeat constructor); done)); exact rfl) | (apply EvW.ldSeen; exact rfl; exact ScalC.eq; assumption; (first | exact rfl | assumption)) | (apply EvW.ldFld; exact rfl; exact ScalC.eq; assumption; exact fun _ => rfl; omega; exact rfl; exact inferInstance) | (apply EvW.build; exact PlC.eq; exact ZvC.eq; exact rfl; exact rfl; (focus ((repeat (first | exact Fills.nil | (apply Fills.cons; exact rfl; (first | assumption | exact rfl); exact rfl) | exact SetMany.nil | apply SetMany.cons | apply SetMany.succ)); done))) | (apply EvW.peqN; exact rfl; exact rfl; exact UndC.eq) | (apply EvW.fldRow; exact rfl; exact FldC.eq; assumption; omega) | (apply EvW.fldOwn; exact rfl; exact FldC.eq; (focus ((repeat constructor); done)); omega) | (apply EvW.nilElemOwn; exact rfl; (focus ((repeat constructor); done)); omega) | (apply EvW.nilElemRow; exact rfl; assumption; omega) | (apply EvW.ldFldOwn; exact rfl; exact ScalC.eq; (focus ((repeat constructor); done)); exact fun _ => rfl; omega; exact rfl; exact inferInstance) | (apply EvW.lookup; exact rfl; exact rfl; exact UndC.eq; exact UndC.eq; exact ZvC.eq; (focus ((repeat constructor); done))) | (apply EvW.lookupOk; exact rfl; exact rfl; exact UndC.eq; exact UndC.eq; exact ZvC.eq; (focus ((repeat constructor); done))) | (apply EvW.lookupT; exact rfl; exact rfl; exact UndC.eq; exact UndC.eq; exact ZvC.eq; (focus ((repeat constructor); done)))))
      | refine WC.seq ?_ | refine WC.region ?_ | refine WL.nil ?_ | refine WE.next ?_ | refine WC.skip ?_ | refine WC.exit ?_ | refine WE.pass ?_ | refine WE.hit ?_ | refine WE.miss rfl ?_ | refine WE.out ?_ | refine WC.condT rfl ?_ | refine WC.condF rfl ?_ | refine WC.ret ?_ | refine WE.passRet ?_ | refine WE.outRet ?_ | refine WL.wanted rfl rfl rfl ?_ | (apply WL.mapUpdate; exact rfl; exact rfl; exact rfl; exact UndC.eq; exact UndC.eq; (focus ((repeat (first | apply UpdM.head | apply UpdM.tail)); done)))
    rw [e]
    dsimp only [Option.getD_none]
    repeat first
      | (apply WL.q; exact rfl; exact rfl; exact rfl; (first | (apply EvW.move; exact rfl) | (apply EvW.assign; exact rfl) | (apply EvW.nilPtr; exact rfl) | (apply EvW.fieldAddr0; exact rfl; exact FldC.eq) | (apply EvW.fieldAddr; exact rfl; exact FldC.eq) | (apply EvW.load; exact rfl; exact ScalC.eq; (focus ((repeat constructor); done)); exact rfl) | (apply EvW.ldSeen; exact rfl; exact ScalC.eq; assumption; (first | exact rfl | assumption)) | (apply EvW.ldFld; exact rfl; exact ScalC.eq; assumption; exact fun _ => rfl; omega; exact rfl; exact inferInstance) | (apply EvW.build; exact PlC.eq; exact ZvC.eq; exact rfl; exact rfl; (focus ((repeat (first | exact Fills.nil | (apply Fills.cons; exact rfl; (first | assumption | exact rfl); exact rfl) | exact SetMany.nil | apply SetMany.cons | apply SetMany.succ)); done))) | (apply EvW.peqN; exact rfl; exact rfl; exact UndC.eq) | (apply EvW.fldRow; exact rfl; exact FldC.eq; assumption; omega) | (apply EvW.fldOwn; exact rfl; exact FldC.eq; (focus ((repeat constructor); done)); omega) | (apply EvW.nilElemOwn; exact rfl; (focus ((repeat constructor); done)); omega) | (apply EvW.nilElemRow; exact rfl; assumption; omega) | (apply EvW.ldFldOwn; exact rfl; exact ScalC.eq; (focus ((repeat constructor); done)); exact fun _ => rfl; omega; exact rfl; exact inferInstance) | (apply EvW.lookup; exact rfl; exact rfl; exact UndC.eq; exact UndC.eq; exact ZvC.eq; (focus ((repeat constructor); done))) | (apply EvW.lookupOk; exact rfl; exact rfl; exact UndC.eq; exact UndC.eq; exact ZvC.eq; (focus ((repeat constructor); done))) | (apply EvW.lookupT; exact rfl; exact rfl; exact UndC.eq; exact UndC.eq; exact ZvC.eq; (focus ((repeat constructor); done)))))
      | refine WC.seq ?_ | refine WC.region ?_ | refine WL.nil ?_ | refine WE.next ?_ | refine WC.skip ?_ | refine WC.exit ?_ | refine WE.pass ?_ | refine WE.hit ?_ | refine WE.miss rfl ?_ | refine WE.out ?_ | refine WC.condT rfl ?_ | refine WC.condF rfl ?_ | refine WC.ret ?_ | refine WE.passRet ?_ | refine WE.outRet ?_ | refine WL.wanted rfl rfl rfl ?_ | (apply WL.mapUpdate; exact rfl; exact rfl; exact rfl; exact UndC.eq; exact UndC.eq; (focus ((repeat (first | apply UpdM.head | apply UpdM.tail)); done)))
    (apply WL.q; exact rfl; exact rfl; exact rfl; (apply EvW.peqNN; exact rfl; exact rfl; exact UndC.eq))
    repeat first
      | (apply WL.q; exact rfl; exact rfl; exact rfl; (first | (apply EvW.move; exact rfl) | (apply EvW.assign; exact rfl) | (apply EvW.nilPtr; exact rfl) | (apply EvW.fieldAddr0; exact rfl; exact FldC.eq) | (apply EvW.fieldAddr; exact rfl; exact FldC.eq) | (apply EvW.load; exact rfl; exact ScalC.eq; (focus ((repeat constructor); done)); exact rfl) | (apply EvW.ldSeen; exact rfl; exact ScalC.eq; assumption; (first | exact rfl | assumption)) | (apply EvW.ldFld; exact rfl; exact ScalC.eq; assumption; exact fun _ => rfl; omega; exact rfl; exact inferInstance) | (apply EvW.build; exact PlC.eq; exact ZvC.eq; exact rfl; exact rfl; (focus ((repeat (first | exact Fills.nil | (apply Fills.cons; exact rfl; (first | assumption | exact rfl); exact rfl) | exact SetMany.nil | apply SetMany.cons | apply SetMany.succ)); done))) | (apply EvW.peqN; exact rfl; exact rfl; exact UndC.eq) | (apply EvW.fldRow; exact rfl; exact FldC.eq; assumption; omega) | (apply EvW.fldOwn; exact rfl; exact FldC.eq; (focus ((repeat constructor); done)); omega) | (apply EvW.nilElemOwn; exact rfl; (focus ((repeat constructor); done)); omega) | (apply EvW.nilElemRow; exact rfl; assumption; omega) | (apply EvW.ldFldOwn; exact rfl; exact ScalC.eq; (focus ((repeat constructor); done)); exact fun _ => rfl; omega; exact rfl; exact inferInstance) | (apply EvW.lookup; exact rfl; exact rfl; exact UndC.eq; exact UndC.eq; exact ZvC.eq; (focus ((repeat constructor); done))) | (apply EvW.lookupOk; exact rfl; exact rfl; exact UndC.eq; exact UndC.eq; exact ZvC.eq; (focus ((repeat constructor); done))) | (apply EvW.lookupT; exact rfl; exact rfl; exact UndC.eq; exact UndC.eq; exact ZvC.eq; (focus ((repeat constructor); done)))))
      | refine WC.seq ?_ | refine WC.region ?_ | refine WL.nil ?_ | refine WE.next ?_ | refine WC.skip ?_ | refine WC.exit ?_ | refine WE.pass ?_ | refine WE.hit ?_ | refine WE.miss rfl ?_ | refine WE.out ?_ | refine WC.condT rfl ?_ | refine WC.condF rfl ?_ | refine WC.ret ?_ | refine WE.passRet ?_ | refine WE.outRet ?_ | refine WL.wanted rfl rfl rfl ?_ | (apply WL.mapUpdate; exact rfl; exact rfl; exact rfl; exact UndC.eq; exact UndC.eq; (focus ((repeat (first | apply UpdM.head | apply UpdM.tail)); done)))
    try refine WL.wanted rfl rfl rfl ?_
    (apply WL.box; exact rfl; exact rfl; exact rfl; intro bb)
    repeat first
      | (apply WL.q; exact rfl; exact rfl; exact rfl; (first | (apply EvW.move; exact rfl) | (apply EvW.assign; exact rfl) | (apply EvW.nilPtr; exact rfl) | (apply EvW.fieldAddr0; exact rfl; exact FldC.eq) | (apply EvW.fieldAddr; exact rfl; exact FldC.eq) | (apply EvW.load; exact rfl; exact ScalC.eq; (focus ((repeat constructor); done)); exact rfl) | (apply EvW.ldSeen; exact rfl; exact ScalC.eq; assumption; (first | exact rfl | assumption)) | (apply EvW.ldFld; exact rfl; exact ScalC.eq; assumption; exact fun _ => rfl; omega; exact rfl; exact inferInstance) | (apply EvW.build; exact PlC.eq; exact ZvC.eq; exact rfl; exact rfl; (focus ((repeat (first | exact Fills.nil | (apply Fills.cons; exact rfl; (first | assumption | exact rfl); exact rfl) | exact SetMany.nil | apply SetMany.cons | apply SetMany.succ)); done))) | (apply EvW.peqN; exact rfl; exact rfl; exact UndC.eq) | (apply EvW.fldRow; exact rfl; exact FldC.eq; assumption; omega) | (apply EvW.fldOwn; exact rfl; exact FldC.eq; (focus ((repeat constructor); done)); omega) | (apply EvW.nilElemOwn; exact rfl; (focus ((repeat constructor); done)); omega) | (apply EvW.nilElemRow; exact rfl; assumption; omega) | (apply EvW.ldFldOwn; exact rfl; exact ScalC.eq; (focus ((repeat constructor); done)); exact fun _ => rfl; omega; exact rfl; exact inferInstance) | (apply EvW.lookup; exact rfl; exact rfl; exact UndC.eq; exact UndC.eq; exact ZvC.eq; (focus ((repeat constructor); done))) | (apply EvW.lookupOk; exact rfl; exact rfl; exact UndC.eq; exact UndC.eq; exact ZvC.eq; (focus ((repeat constructor); done))) | (apply EvW.lookupT; exact rfl; exact rfl; exact UndC.eq; exact UndC.eq; exact ZvC.eq; (focus ((repeat constructor); done)))))
      | refine WC.seq ?_ | refine WC.region ?_ | refine WL.nil ?_ | refine WE.next ?_ | refine WC.skip ?_ | refine WC.exit ?_ | refine WE.pass ?_ | refine WE.hit ?_ | refine WE.miss rfl ?_ | refine WE.out ?_ | refine WC.condT rfl ?_ | refine WC.condF rfl ?_ | refine WC.ret ?_ | refine WE.passRet ?_ | refine WE.outRet ?_ | refine WL.wanted rfl rfl rfl ?_ | (apply WL.mapUpdate; exact rfl; exact rfl; exact rfl; exact UndC.eq; exact UndC.eq; (focus ((repeat (first | apply UpdM.head | apply UpdM.tail)); done)))
    (apply WL.mapUpdateT; exact rfl; exact rfl; exact rfl; exact UndC.eq; exact UndC.eq; (focus ((repeat (first | apply UpdT.head | apply UpdT.tail)); done)))
    rw [mput_kv p bb zs h]
    refine WL.conv (fun _ hs => (hs.ownNil (e := 9) (sz := 1)).ownNil (e := 9) (sz := 1)) ?_
    refine WL.shutWire (vd := (.slice none 0 0)) (vh := (.slice none 0 0)) (d := []) (h := []) p (by repeat constructor) ?_
    refine WL.backL (L := (zs ++ [(newW p, bb)]).map wz) (L' := zs.map wz) (z := wz (newW p, bb)) .head (by repeat constructor) (take_map_last wz _ zs) ?_
    have e3 : mget p ((zs ++ [(newW p, bb)]).map kv) = some (ptr bb 0) := by
      rw [← mput_kv p bb zs h, mget_put, if_pos rfl]
    repeat first
      | (apply WL.q; exact rfl; exact rfl; exact rfl; (first | (apply EvW.move; exact rfl) | (apply EvW.assign; exact rfl) | (apply EvW.nilPtr; exact rfl) | (apply EvW.fieldAddr0; exact rfl; exact FldC.eq) | (apply EvW.fieldAddr; exact rfl; exact FldC.eq) | (apply EvW.load; exact rfl; exact ScalC.eq; (focus ((repeat constructor); done)); exact rfl) | (apply EvW.ldSeen; exact rfl; exact ScalC.eq; assumption; (first | exact rfl | assumption)) | (apply EvW.ldFld; exact rfl; exact ScalC.eq; assumption; exact fun _ => rfl; omega; exact rfl; exact inferInstance) | (apply EvW.build; exact PlC.eq; exact ZvC.eq; exact rfl; exact rfl; (focus ((repeat (first | exact Fills.nil | (apply Fills.cons; exact rfl; (first | assumption | exact rfl); exact rfl) | exact SetMany.nil | apply SetMany.cons | apply SetMany.succ)); done))) | (apply EvW.peqN; exact rfl; exact rfl; exact UndC.eq) | (apply EvW.fldRow; exact rfl; exact FldC.eq; assumption; omega) | (apply EvW.fldOwn; exact rfl; exact FldC.eq; (focus ((repeat constructor); done)); omega) | (apply EvW.nilElemOwn; exact rfl; (focus ((repeat constructor); done)); omega) | (apply EvW.nilElemRow; exact rfl; assumption; omega) | (apply EvW.ldFldOwn; exact rfl; exact ScalC.eq; (focus ((repeat constructor); done)); exact fun _ => rfl; omega; exact rfl; exact inferInstance) | (apply EvW.lookup; exact rfl; exact rfl; exact UndC.eq; exact UndC.eq; exact ZvC.eq; (focus ((repeat constructor); done))) | (apply EvW.lookupOk; exact rfl; exact rfl; exact UndC.eq; exact UndC.eq; exact ZvC.eq; (focus ((repeat constructor); done))) | (apply EvW.lookupT; exact rfl; exact rfl; exact UndC.eq; exact UndC.eq; exact ZvC.eq; (focus ((repeat constructor); done)))))
      | refine WC.seq ?_ | refine WC.region ?_ | refine WL.nil ?_ | refine WE.next ?_ | refine WC.skip ?_ | refine WC.exit ?_ | refine WE.pass ?_ | refine WE.hit ?_ | refine WE.miss rfl ?_ | refine WE.out ?_ | refine WC.condT rfl ?_ | refine WC.condF rfl ?_ | refine WC.ret ?_ | refine WE.passRet ?_ | refine WE.outRet ?_ | refine WL.wanted rfl rfl rfl ?_ | (apply WL.mapUpdate; exact rfl; exact rfl; exact rfl; exact UndC.eq; exact UndC.eq; (focus ((repeat (first | apply UpdM.head | apply UpdM.tail)); done)))
    rw [e3]
    dsimp only [Option.getD_some]
    refine WE.keep (xs := [.blk wb #[.map (some mb)] 50, .tmap mb ((zs ++ [(newW p, bb)]).map kv), sepL ((zs ++ [(newW p, bb)]).map wz)]) (by repeat constructor) ?_
    refine WE.ret1 rfl rfl ?_
    refine ⟨bb, ?_, ?_⟩
    · rw [e2, ixW_last zs p bb h]
    · rw [e2]
end Go.Proofs.Ytoaajdmacngnjaa
namespace Go.Proofs.Ytoaajdmacngnjaa
open Go.RowKit Go.BK
def wiresH (wb : Nat) (xs : List Wr) : HP := .ex fun a : Nat × Zs => sepL [.pure (a.2.map (·.1) = xs), .blk wb #[.map (some a.1)] 50, .tmap a.1 (a.2.map kv), sepL (a.2.map wz)]
section
variable {P : Program} {w0 : World} {S0 : BSet} {n : Nat} {F : Fr} {A r : List HP} {ops : Array Oper} {Q : Exit → Act → World → Prop} {rest : List Oper} {xs : List Wr} {wb : Nat}
theorem St.openW {w : World} (ht : Take (wiresH wb xs) A r) (h : St w0 S0 A w) : ∃ (mb : Nat) (zs : Zs), zs.map (·.1) = xs ∧ St w0 S0 (.blk wb #[.map (some mb)] 50 :: .tmap mb ((zs).map kv) :: sepL ((zs).map wz) :: r) w := by
  obtain ⟨⟨mb, zs⟩, h1⟩ := St.exH ht h
  have h2 := St.unpack (LR := .pure (zs.map (·.1) = xs) :: .blk wb #[.map (some mb)] 50 :: .tmap mb ((zs).map kv) :: sepL ((zs).map wz) :: r) .head rfl h1
  obtain ⟨h3, h4⟩ := St.pureH .head h2
  exact ⟨mb, zs, h3, h4⟩
theorem St.shutW {w : World} {mb : Nat} {zs : Zs} (t : TakeL [.blk wb #[.map (some mb)] 50, .tmap mb ((zs).map kv), sepL ((zs).map wz)] A r) (hs : St w0 S0 A w) : St w0 S0 (wiresH wb (zs.map (·.1)) :: r) w := by
  have h1 := St.pack t hs
  have h2 : St w0 S0 (.blk wb #[.map (some mb)] 50 :: .tmap mb ((zs).map kv) :: sepL ((zs).map wz) :: r) w := St.unpack .head rfl h1
  have h3 := St.inPure (φ := zs.map (·.1) = zs.map (·.1)) rfl h2
  have h4 := St.pack (L := [.pure (zs.map (·.1) = zs.map (·.1)), .blk wb #[.map (some mb)] 50, .tmap mb ((zs).map kv), sepL ((zs).map wz)]) (r := r) (by repeat constructor) h3
  exact St.inEx (f := fun a : Nat × Zs => sepL [.pure (a.2.map (·.1) = zs.map (·.1)), .blk wb #[.map (some a.1)] 50, .tmap a.1 (a.2.map kv), sepL (a.2.map wz)]) (mb, zs) h4
theorem WC.openW {c : Code} (ht : Take (wiresH wb xs) A r) (kk : ∀ (mb : Nat) (zs : Zs), zs.map (·.1) = xs → WC P w0 S0 n c Q F (.blk wb #[.map (some mb)] 50 :: .tmap mb ((zs).map kv) :: sepL ((zs).map wz) :: r)) : WC P w0 S0 n c Q F A :=
  ⟨fun a w ha hs => by obtain ⟨x, y, h1, h⟩ := St.openW ht hs; exact (kk x y h1).go a w ha h⟩
theorem WE.shutW {e : Exit} {mb : Nat} {zs : Zs} (t : TakeL [.blk wb #[.map (some mb)] 50, .tmap mb ((zs).map kv), sepL ((zs).map wz)] A r) (kk : WE w0 S0 n Q e F (wiresH wb (zs.map (·.1)) :: r)) : WE w0 S0 n Q e F A := kk.conv fun _ hs => St.shutW t hs
theorem Sees.openW {w : World} {S : BSet} (h : Sees w S (wiresH wb xs)) : ∃ (mb : Nat) (zs : Zs), zs.map (·.1) = xs ∧ Sees w S (.blk wb #[.map (some mb)] 50) ∧ Sees w S (.tmap mb ((zs).map kv)) ∧ Sees w S (sepL ((zs).map wz)) := by
  obtain ⟨⟨mb, zs⟩, h1⟩ := Sees.ex h
  exact ⟨mb, zs, (h1.part .head).isPure, h1.part (.tail .head), h1.part (.tail (.tail .head)), h1.part (.tail (.tail (.tail .head)))⟩
end
theorem wnew_spec  (w : World) (S : BSet) (hS : (sepL []).sat S w)  :
    Tri Try.prog 10 #[] w S fun u A => ∃ wb, u = ptr wb 0 ∧ A = [wiresH wb []] := by
  refine Tri.enter (l := []) Try.func10 rfl Try.ntmps10 rfl [] (subA rfl) hS ?_
  repeat first
    | (apply WL.q; exact rfl; exact rfl; exact rfl; (first | (apply EvW.assign; exact rfl) | (apply EvW.build; exact PlC.eq; exact ZvC.eq; exact rfl; exact rfl; (focus ((repeat (first | exact Fills.nil | (apply Fills.cons; exact rfl; (first | assumption | exact rfl); exact rfl) | exact SetMany.nil | apply SetMany.cons | apply SetMany.succ)); done)))))
    | refine WC.seq ?_ | refine WC.region ?_ | refine WL.nil ?_ | refine WE.next ?_ | refine WC.skip ?_ | refine WC.exit ?_ | refine WE.pass ?_ | refine WE.hit ?_ | refine WE.miss rfl ?_ | refine WE.out ?_ | refine WC.ret ?_ | refine WE.passRet ?_ | refine WE.outRet ?_ | refine WL.wanted rfl rfl rfl ?_
  (apply WL.makeMapT; exact rfl; intro mb)
  repeat first
    | (apply WL.q; exact rfl; exact rfl; exact rfl; (first | (apply EvW.assign; exact rfl) | (apply EvW.build; exact PlC.eq; exact ZvC.eq; exact rfl; exact rfl; (focus ((repeat (first | exact Fills.nil | (apply Fills.cons; exact rfl; (first | assumption | exact rfl); exact rfl) | exact SetMany.nil | apply SetMany.cons | apply SetMany.succ)); done)))))
    | refine WC.seq ?_ | refine WC.region ?_ | refine WL.nil ?_ | refine WE.next ?_ | refine WC.skip ?_ | refine WC.exit ?_ | refine WE.pass ?_ | refine WE.hit ?_ | refine WE.miss rfl ?_ | refine WE.out ?_ | refine WC.ret ?_ | refine WE.passRet ?_ | refine WE.outRet ?_ | refine WL.wanted rfl rfl rfl ?_
  try refine WL.wanted rfl rfl rfl ?_
  (apply WL.box; exact rfl; exact rfl; exact rfl; intro wb)
  repeat first
    | (apply WL.q; exact rfl; exact rfl; exact rfl; (first | (apply EvW.assign; exact rfl) | (apply EvW.build; exact PlC.eq; exact ZvC.eq; exact rfl; exact rfl; (focus ((repeat (first | exact Fills.nil | (apply Fills.cons; exact rfl; (first | assumption | exact rfl); exact rfl) | exact SetMany.nil | apply SetMany.cons | apply SetMany.succ)); done)))))
    | refine WC.seq ?_ | refine WC.region ?_ | refine WL.nil ?_ | refine WE.next ?_ | refine WC.skip ?_ | refine WC.exit ?_ | refine WE.pass ?_ | refine WE.hit ?_ | refine WE.miss rfl ?_ | refine WE.out ?_ | refine WC.ret ?_ | refine WE.passRet ?_ | refine WE.outRet ?_ | refine WL.wanted rfl rfl rfl ?_
  refine WE.conv (fun _ hs => St.noneL hs) ?_
  refine WE.shutW (mb := mb) (zs := []) (by repeat constructor) ?_
  refine WE.keep (xs := [wiresH wb []]) (by repeat constructor) ?_
  refine WE.ret1 rfl rfl ?_
  exact ⟨wb, rfl, rfl⟩
def updW (xs : List Wr) (p : Int) (f : Wr → Wr) : List Wr := (ofF xs p).set (ixW xs p) (f ((ofF xs p).getD (ixW xs p) default))
def setF (xs : List Wr) (p m : Int) : List Wr := if m < 0 ∨ 5 < m then xs else updW xs p fun q => ⟨q.p, m, q.due, q.held⟩
theorem ixW_of (zs : Zs) (p : Int) (b : Nat) : ixW (zs.map (·.1)) p < (ofZ zs p b).length := by
  unfold ofZ
  split
  · assumption
  · have h1 := ixW_le (zs.map (·.1)) p
    rw [List.length_map] at h1
    rw [List.length_append, List.length_singleton]; omega
theorem map_getD {α β : Type} [Inhabited α] [Inhabited β] (f : α → β) (l : List α) (i : Nat) (h : i < l.length) : (l.map f).getD i default = f (l.getD i default) := by
  rw [List.getD_eq_getElem?_getD, List.getElem?_map, List.getD_eq_getElem?_getD, List.getElem?_eq_getElem h]; rfl
theorem kv_set (zs : Zs) (i : Nat) (q : Wr) (b : Nat) (h : i < zs.length) (hp : q.p = (zs.getD i default).1.p) (hb : b = (zs.getD i default).2) : (zs.set i (q, b)).map kv = zs.map kv := by
  rw [List.map_set]
  apply List.ext_getElem (by simp)
  intro j h1 h2
  rw [List.getElem_set]
  split
  · rename_i e
    subst e
    rw [List.getElem_map]
    rw [List.getD_eq_getElem?_getD, List.getElem?_eq_getElem h] at hp hb
    unfold kv
    rw [hp, hb]; rfl
  · rfl
theorem upd_fst (zs : Zs) (p : Int) (b : Nat) (f : Wr → Wr) (c : Nat) : ((ofZ zs p b).set (ixW (zs.map (·.1)) p) (f ((ofZ zs p b).getD (ixW (zs.map (·.1)) p) default).1, c)).map (·.1) = updW (zs.map (·.1)) p f := by
  unfold updW
  rw [List.map_set, ← ofZ_fst zs p b, map_getD _ _ _ (ixW_of zs p b)]
theorem set_spec (wb : Nat) (xs : List Wr) (p m : Int) (w : World) (S : BSet) (hS : (sepL [wiresH wb xs]).sat S w)  :
    Tri Try.prog 12 #[ptr wb 0, i64 p, i64 m] w S fun u A => u = i64 (if m < 0 ∨ 5 < m then 33 else 0) ∧ A = [wiresH wb (setF xs p m)] := by
  refine Tri.enter (l := [ptr wb 0, i64 p, i64 m]) Try.func12 rfl Try.ntmps12 rfl [(0, ptr wb 0), (1, i64 p), (2, i64 m)] (subA rfl) hS ?_
  by_cases h0 : m < 0
  · rw [if_pos (.inl h0), show setF xs p m = xs from by unfold setF; rw [if_pos (.inl h0)]]
    repeat first
      | (apply WL.q; exact rfl; exact rfl; exact rfl; (first | (apply EvW.move; exact rfl) | (apply EvW.assign; exact rfl) | (apply EvW.nilPtr; exact rfl) | (apply EvW.fieldAddr0; exact rfl; exact FldC.eq) | (apply EvW.fieldAddr; exact rfl; exact FldC.eq) | (apply EvW.cmpT; exact rfl; exact rfl; exact rfl; omega) | (apply EvW.cmpF; exact rfl; exact rfl; exact rfl; omega) | (apply EvW.cmp; exact rfl; exact rfl; exact rfl) | (apply EvW.pickT; exact rfl; exact rfl) | (apply EvW.pickF; exact rfl; exact rfl) | (apply EvW.fldRow; exact rfl; exact FldC.eq; assumption; omega) | (apply EvW.fldOwn; exact rfl; exact FldC.eq; (focus ((repeat constructor); done)); omega) | (apply EvW.nilElemOwn; exact rfl; (focus ((repeat constructor); done)); omega) | (apply EvW.nilElemRow; exact rfl; assumption; omega)))
      | refine WC.seq ?_ | refine WC.region ?_ | refine WL.nil ?_ | refine WE.next ?_ | refine WC.skip ?_ | refine WC.exit ?_ | refine WE.pass ?_ | refine WE.hit ?_ | refine WE.miss rfl ?_ | refine WE.out ?_ | refine WC.condT rfl ?_ | refine WC.condF rfl ?_ | refine WC.ret ?_ | refine WE.passRet ?_ | refine WE.outRet ?_ | refine WL.wanted rfl rfl rfl ?_ | refine WL.unwanted rfl rfl rfl rfl ?_ | refine WL.unwantedU rfl rfl rfl rfl ?_ | refine WL.unwanted0 rfl rfl rfl ?_ | (apply WL.store; exact rfl; exact rfl; (first | assumption | exact rfl); exact SzC.eq; (first | assumption | exact rfl); (focus ((repeat constructor); done)))
    refine WE.ret1 rfl rfl ?_
    exact ⟨rfl, rfl⟩
  by_cases h5 : 5 < m
  · rw [if_pos (.inr h5), show setF xs p m = xs from by unfold setF; rw [if_pos (.inr h5)]]
    repeat first
      | (apply WL.q; exact rfl; exact rfl; exact rfl; (first | (apply EvW.move; exact rfl) | (apply EvW.assign; exact rfl) | (apply EvW.nilPtr; exact rfl) | (apply EvW.fieldAddr0; exact rfl; exact FldC.eq) | (apply EvW.fieldAddr; exact rfl; exact FldC.eq) | (apply EvW.cmpT; exact rfl; exact rfl; exact rfl; omega) | (apply EvW.cmpF; exact rfl; exact rfl; exact rfl; omega) | (apply EvW.cmp; exact rfl; exact rfl; exact rfl) | (apply EvW.pickT; exact rfl; exact rfl) | (apply EvW.pickF; exact rfl; exact rfl) | (apply EvW.fldRow; exact rfl; exact FldC.eq; assumption; omega) | (apply EvW.fldOwn; exact rfl; exact FldC.eq; (focus ((repeat constructor); done)); omega) | (apply EvW.nilElemOwn; exact rfl; (focus ((repeat constructor); done)); omega) | (apply EvW.nilElemRow; exact rfl; assumption; omega)))
      | refine WC.seq ?_ | refine WC.region ?_ | refine WL.nil ?_ | refine WE.next ?_ | refine WC.skip ?_ | refine WC.exit ?_ | refine WE.pass ?_ | refine WE.hit ?_ | refine WE.miss rfl ?_ | refine WE.out ?_ | refine WC.condT rfl ?_ | refine WC.condF rfl ?_ | refine WC.ret ?_ | refine WE.passRet ?_ | refine WE.outRet ?_ | refine WL.wanted rfl rfl rfl ?_ | refine WL.unwanted rfl rfl rfl rfl ?_ | refine WL.unwantedU rfl rfl rfl rfl ?_ | refine WL.unwanted0 rfl rfl rfl ?_ | (apply WL.store; exact rfl; exact rfl; (first | assumption | exact rfl); exact SzC.eq; (first | assumption | exact rfl); (focus ((repeat constructor); done)))
    refine WE.ret1 rfl rfl ?_
    exact ⟨rfl, rfl⟩
  rw [if_neg (by omega), show setF xs p m = updW xs p fun q => ⟨q.p, m, q.due, q.held⟩ from by unfold setF; rw [if_neg (by omega)]]
  refine WC.openW .head fun mb zs hz => ?_
  repeat first
    | (apply WL.q; exact rfl; exact rfl; exact rfl; (first | (apply EvW.move; exact rfl) | (apply EvW.assign; exact rfl) | (apply EvW.nilPtr; exact rfl) | (apply EvW.fieldAddr0; exact rfl; exact FldC.eq) | (apply EvW.fieldAddr; exact rfl; exact FldC.eq) | (apply EvW.cmpT; exact rfl; exact rfl; exact rfl; omega) | (apply EvW.cmpF; exact rfl; exact rfl; exact rfl; omega) | (apply EvW.cmp; exact rfl; exact rfl; exact rfl) | (apply EvW.pickT; exact rfl; exact rfl) | (apply EvW.pickF; exact rfl; exact rfl) | (apply EvW.fldRow; exact rfl; exact FldC.eq; assumption; omega) | (apply EvW.fldOwn; exact rfl; exact FldC.eq; (focus ((repeat constructor); done)); omega) | (apply EvW.nilElemOwn; exact rfl; (focus ((repeat constructor); done)); omega) | (apply EvW.nilElemRow; exact rfl; assumption; omega)))
    | refine WC.seq ?_ | refine WC.region ?_ | refine WL.nil ?_ | refine WE.next ?_ | refine WC.skip ?_ | refine WC.exit ?_ | refine WE.pass ?_ | refine WE.hit ?_ | refine WE.miss rfl ?_ | refine WE.out ?_ | refine WC.condT rfl ?_ | refine WC.condF rfl ?_ | refine WC.ret ?_ | refine WE.passRet ?_ | refine WE.outRet ?_ | refine WL.wanted rfl rfl rfl ?_ | refine WL.unwanted rfl rfl rfl rfl ?_ | refine WL.unwantedU rfl rfl rfl rfl ?_ | refine WL.unwanted0 rfl rfl rfl ?_ | (apply WL.store; exact rfl; exact rfl; (first | assumption | exact rfl); exact SzC.eq; (first | assumption | exact rfl); (focus ((repeat constructor); done)))
  try refine WL.wanted rfl rfl rfl ?_
  apply WL.callA ([.blk wb #[.map (some mb)] 50, .tmap mb ((zs).map kv), sepL ((zs).map wz)])
  · exact rfl
  · exact rfl
  · exact fun w => Try.call19 _ w
  · (focus ((repeat constructor); done))
  · exact fun w1 S1 hS1 hs1 ho1 => of_spec zs wb mb p w1 S1 hS1
  rintro _ _ ⟨b, rfl, rfl⟩
  first | refine WL.app4 ?_ | refine WL.app3 ?_ | refine WL.app2 ?_ | refine WL.app1 ?_ | refine WL.app0 ?_ | skip
  have hi := ixW_of zs p b
  have hu := upd_fst zs p b (fun q => ⟨q.p, m, q.due, q.held⟩) ((ofZ zs p b).getD (ixW (zs.map (·.1)) p) default).2
  have hk := kv_set (ofZ zs p b) (ixW (zs.map (·.1)) p) ⟨((ofZ zs p b).getD (ixW (zs.map (·.1)) p) default).1.p, m, ((ofZ zs p b).getD (ixW (zs.map (·.1)) p) default).1.due, ((ofZ zs p b).getD (ixW (zs.map (·.1)) p) default).1.held⟩ _ hi rfl rfl
  rw [hz] at hu hk hi ⊢
  generalize ofZ zs p b = zs2 at hu hk hi
  generalize ixW xs p = i at hu hk hi
  refine WL.outL (L := zs2.map wz) (L' := (zs2.map wz).eraseIdx i) (by repeat constructor) (take_at (take_map_at (d := default) hi)) ?_
  refine WL.openWire .head fun vd vh => ?_
  have hbk : ∃ bb, (zs2.getD i default).2 = bb := ⟨_, rfl⟩
  obtain ⟨bb, hbb⟩ := hbk
  obtain ⟨q, hq⟩ : ∃ q, (zs2.getD i default).1 = q := ⟨_, rfl⟩
  rw [hbb, hq] at hu hk
  rw [hbb, hq]
  repeat first
    | (apply WL.q; exact rfl; exact rfl; exact rfl; (first | (apply EvW.move; exact rfl) | (apply EvW.assign; exact rfl) | (apply EvW.nilPtr; exact rfl) | (apply EvW.fieldAddr0; exact rfl; exact FldC.eq) | (apply EvW.fieldAddr; exact rfl; exact FldC.eq) | (apply EvW.cmpT; exact rfl; exact rfl; exact rfl; omega) | (apply EvW.cmpF; exact rfl; exact rfl; exact rfl; omega) | (apply EvW.cmp; exact rfl; exact rfl; exact rfl) | (apply EvW.pickT; exact rfl; exact rfl) | (apply EvW.pickF; exact rfl; exact rfl) | (apply EvW.fldRow; exact rfl; exact FldC.eq; assumption; omega) | (apply EvW.fldOwn; exact rfl; exact FldC.eq; (focus ((repeat constructor); done)); omega) | (apply EvW.nilElemOwn; exact rfl; (focus ((repeat constructor); done)); omega) | (apply EvW.nilElemRow; exact rfl; assumption; omega)))
    | refine WC.seq ?_ | refine WC.region ?_ | refine WL.nil ?_ | refine WE.next ?_ | refine WC.skip ?_ | refine WC.exit ?_ | refine WE.pass ?_ | refine WE.hit ?_ | refine WE.miss rfl ?_ | refine WE.out ?_ | refine WC.condT rfl ?_ | refine WC.condF rfl ?_ | refine WC.ret ?_ | refine WE.passRet ?_ | refine WE.outRet ?_ | refine WL.wanted rfl rfl rfl ?_ | refine WL.unwanted rfl rfl rfl rfl ?_ | refine WL.unwantedU rfl rfl rfl rfl ?_ | refine WL.unwanted0 rfl rfl rfl ?_ | (apply WL.store; exact rfl; exact rfl; (first | assumption | exact rfl); exact SzC.eq; (first | assumption | exact rfl); (focus ((repeat constructor); done)))
  refine WE.shutWire (vd := vd) (vh := vh) (d := q.due) (h := q.held) q.p (by repeat constructor) ?_
  refine WE.backL (L := (zs2.set i (⟨q.p, m, q.due, q.held⟩, bb)).map wz) (L' := (zs2.map wz).eraseIdx i) (z := wz (⟨q.p, m, q.due, q.held⟩, bb)) .head (by repeat constructor) (take_map_set _ hi) ?_
  refine WE.shutW (mb := mb) (zs := zs2.set i (⟨q.p, m, q.due, q.held⟩, bb)) (by rw [hk]; (focus ((repeat constructor); done))) ?_
  rw [hu]
  refine WE.keep (xs := [wiresH wb (updW xs p fun q => ⟨q.p, m, q.due, q.held⟩)]) (by repeat constructor) ?_
  refine WE.ret1 rfl rfl ?_
  exact ⟨rfl, rfl⟩
end Go.Proofs.Ytoaajdmacngnjaa
namespace Go.BK
open Go.RowKit
structure WA (P : Program) (w0 : World) (S0 : BSet) (n : Nat) (ops : List Oper) (Q : Exit → Act → World → Prop) (F : Fr) (A : List HP) : Prop where
  go : ∀ a w, Agr n F a → St w0 S0 A w → wpAny P .any ops.toArray Q ops.toArray.size (Array.replicate ops.toArray.size false) a w
section
variable {P : Program} {w0 : World} {S0 : BSet} {n : Nat} {ops : List Oper} {F0 : Fr} {tok : Ch → List HP} {pros cons : List (Option Nat)} {nv : List (Nat × (Nat × Value → Value))}
theorem WA.par {Q : Exit → Act → World → Prop} {F : Fr} {A : List HP} {all : Ch → Done} (F0 : Fr) (tok : Ch → List HP) (pros cons : List (Option Nat)) (nv : List (Nat × (Nat × Value → Value))) (hr : Restr (dsts ops) [] F F0) (hA : ∀ c, SelT (pros.map fun p => p.isNone) (tok c) [] A)
    (hslots : slotsOk F0 ops [] = true) (hdst : ops.all (fun o => o.dst.all fun d => Nat.blt d n) = true) (hg : (edgesAll 0 ops && gOk ops pros cons) = true)
    (hd : ∀ c, Par P w0 S0 n ops F0 tok pros cons nv c 0 [] ops (all c))
    (hindA : AllN (fun i => ∀ c x, IndA ops i ops.length (all (c.upd i x)) (all c)) nv) (hindT : AllN (fun i => ∀ c x, IndT ops i pros (tok (c.upd i x)) (tok c)) nv)
    (hlen : ∀ c, (tok c).length = pros.length)
    (h : ∀ c, ∃ Z, SelT (cons.map fun p => p.isNone) (tok c) [] Z ∧ WE w0 S0 n Q .normal (allF F0 (all c)) Z) : WA P w0 S0 n ops Q F A := by
  refine ⟨fun a w ha hs => ?_⟩
  rw [Bool.and_eq_true] at hg
  have hsub : Sub F0 F := Sub.refl' hr F fun t v h => hr.get t v rfl h
  have hall : ∀ c, (all c).reverse.map (·.1) = ops := fun c => by
    obtain ⟨more, h1, h2, _⟩ := (hd c).ok rfl hg.1
    simp only [List.reverse_nil, List.nil_append] at h1
    rw [h1]; exact h2
  have hal : ∀ c, (all c).length = ops.length := fun c => by have := congrArg List.length (hall c); simpa using this
  have hg1 : ∀ t, (pros.map fun p => p.isNone).getD t false = true → (pros.getD t none).isNone = true := by
    intro t ht
    rw [List.getD_eq_getElem?_getD, List.getElem?_map] at ht
    rw [List.getD_eq_getElem?_getD]
    cases hp : pros[t]? with
    | none => rfl
    | some p => rw [hp] at ht; exact ht
  refine par_all (w0 := w0) (S0 := S0) (P := P) (all := fun c => (all c).reverse) (tok := tok) (pros := pros) (cons := cons) (nv := nv) hall (fun c i o v hi => ?_) hslots hdst hg.2 hlen (fun i hi c x j hj => ?_) (fun i hi c x t ht => ((hindT.at i hi) c x).at.2.2 t ht) (fun c a w ha hs => ?_) _ _ _ _ ?_ ⟨by simp, ?_, ha.sub hsub, ?_⟩
  · obtain ⟨more, h1, h2, h3⟩ := (hd c).ok rfl hg.1
    simp only [List.reverse_nil, List.nil_append] at h1
    have := h3 i o v (by rw [← h1]; exact hi)
    simpa using this
  · exact (((hindA.at i hi) c x).at (hal _).symm).2 j hj
  · obtain ⟨Z, hZ, hE⟩ := h c
    refine hE.go a w ⟨ha.defers, ha.size, fun t u ht => ha.get t u (allF_rev hslots (hall c) ht)⟩ (hs.sel fun S w hs => ?_)
    have := hZ.at
    rw [this, List.append_nil]
    have hcl : cons.length = (tok c).length := by have := hZ.len; simpa using this
    rw [selF_congr (g := fun t => (cons.map fun p => p.isNone).getD t false) (tok c) (tok c) 0 rfl (fun t ht => ?_) (fun _ _ => rfl)] at hs
    · exact hs
    · rw [Nat.zero_add, List.getD_eq_getElem?_getD, List.getD_eq_getElem?_getD, List.getElem?_map, List.getElem?_eq_getElem (by omega)]; rfl
  · exact Nat.le_trans (List.countP_le_length ..) (by simp)
  · intro i o hi; exact absurd hi (rep_false i)
  · refine ⟨fun _ => (0, undef), fun i o v d hi => absurd hi (rep_false i), hs.sel fun S w hs => ?_⟩
    have := (hA fun _ => (0, undef)).at
    rw [this, List.append_nil] at hs
    rw [selF_congr (g := fun t => (pros.map fun p => p.isNone).getD t false) (tok _) (tok fun _ => (0, undef)) 0 rfl (fun t ht => ?_) (fun _ _ => rfl)]
    · exact hs
    · rw [hlen] at ht
      rw [Nat.zero_add, List.getD_eq_getElem?_getD, List.getElem?_map, List.getElem?_eq_getElem ht]
      unfold av
      rw [List.getD_eq_getElem?_getD, List.getElem?_eq_getElem ht]
      simp only [Option.getD_some, Option.map_some]
      have hf : ∀ q, (Array.replicate ops.toArray.size false).getD q false = false := fun q => by
        rw [Array.getD_eq_getD_getElem?, Array.getElem?_replicate]; split <;> rfl
      rcases hcc : cons.getD t none with _ | q <;> rcases hpp : pros[t] with _ | p <;> simp only [hf] <;> rfl
theorem WC.ofWA {id : Nat} {Q : Exit → Act → World → Prop} {F : Fr} {A : List HP} (hmix : P.follows .mixedOrders = true) (h : WA P w0 S0 n ops Q F A) : WC P w0 S0 n (.region id ops.toArray true) Q F A :=
  ⟨fun a w ha hs => wp_region_any hmix (h.go a _ ha (hs.drew _))⟩
/-- Operations that differ in one place alone, where the step is done. -/
theorem wpAny_same {Q : Exit → Act → World → Prop} {ops' : List Oper} {i : Nat} (hl : ops'.length = ops.length) (hs : ∀ j, j ≠ i → ops'[j]? = ops[j]?) (hd : (ops'[i]?).bind (·.dst) = (ops[i]?).bind (·.dst)) :
    ∀ (fuel : Nat) (L : Array Bool) (a : Act) (w : World), L.getD i true = true → wpAny P .any ops'.toArray Q fuel L a w → wpAny P .any ops.toArray Q fuel L a w := by
  have hr : ∀ L : Array Bool, L.getD i true = true → Region.ready .any ops'.toArray L = Region.ready .any ops.toArray L := by
    intro L hL
    unfold Region.ready
    rw [List.size_toArray, List.size_toArray, hl]
    refine List.filter_congr fun j _ => ?_
    by_cases hj : j = i
    · subst hj; rw [hL]; rfl
    · rw [List.getElem?_toArray, List.getElem?_toArray, hs j hj]
  have hy : ∀ (t : Array Value) (j : Nat), yielded ops'.toArray t j = yielded ops.toArray t j := by
    intro t j
    unfold yielded
    rw [List.getElem?_toArray, List.getElem?_toArray]
    by_cases hj : j = i
    · subst hj; rw [hd]
    · rw [hs j hj]
  intro fuel
  induction fuel with
  | zero => intro L a w hL h; exact ⟨by rw [← hr L hL]; exact h.1, h.2⟩
  | succ fuel ih =>
    intro L a w hL h
    refine ⟨fun h0 => h.1 (by rw [hr L hL]; exact h0), fun j hj => ?_⟩
    rw [← hr L hL] at hj
    have hji : j ≠ i := by
      rintro rfl
      have := (_root_.Go.mem_ready.1 hj).1
      rw [hL] at this; cases this
    have h1 := h.2 j hj
    have h2 := wpOp_mono (fun a' w' h' => ih (L.setIfInBounds j true) a' w' (by rw [getD_set_ne true hji]; exact hL) h') h1
    unfold wpOp at h2 ⊢
    rw [List.getElem?_toArray] at h2 ⊢
    rw [hs j hji] at h2
    split
    · rename_i e; rw [e] at h2; exact h2
    · rename_i o e
      rw [e] at h2
      simp only [] at h2
      have hw : Region.wanted o (yielded ops'.toArray a.tmps) = Region.wanted o (yielded ops.toArray a.tmps) := by
        rw [show yielded ops'.toArray a.tmps = yielded ops.toArray a.tmps from funext fun j => hy _ j]
      rw [hw] at h2
      exact h2
/-- The first step reads a slot: what it reads can be told in its place. -/
theorem WA.moveFirst {Q : Exit → Act → World → Prop} {F : Fr} {A : List HP} (i : Nat) {t d : Nat} {T : TypeId} {pos : String} {af : Array Edge} {v : Value} (hop : ops[i]? = some ⟨some d, .move (.tmp t), T, pos, af, none⟩) (hv : F.get t = some v)
    (hns : Region.noSelect ops.toArray = true) (hf : Region.free .any ops.toArray (Array.replicate ops.toArray.size false) i = true) (hr : (Region.ready .any ops.toArray (Array.replicate ops.toArray.size false)).contains i = true)
    (hQ : ∀ c a w, Q (.panic c) (a.put (some d) v) w → Q (.panic c) a w) (hlt : Nat.blt i ops.length = true)
    (k : WA P w0 S0 n (ops.set i ⟨some d, .move (.const v), T, pos, af, none⟩) Q F A) : WA P w0 S0 n ops Q F A := by
  refine ⟨fun a w ha hs => ?_⟩
  have hlt : i < ops.length := by simpa using hlt
  have h1 := k.go a w ha hs
  simp only [List.size_toArray, List.length_set] at h1
  obtain ⟨m, hm⟩ : ∃ m, ops.length = m + 1 := ⟨ops.length - 1, by omega⟩
  simp only [List.size_toArray]
  rw [hm] at h1 ⊢
  have hri : i ∈ Region.ready .any ops.toArray (Array.replicate (m + 1) false) := by
    simp only [List.size_toArray, hm] at hr
    simpa using hr
  have hri' : i ∈ Region.ready .any (ops.set i ⟨some d, .move (.const v), T, pos, af, none⟩).toArray (Array.replicate (m + 1) false) := by
    obtain ⟨h2, o, h3, h4⟩ := _root_.Go.mem_ready.1 hri
    rw [List.getElem?_toArray, hop] at h3
    cases h3
    refine _root_.Go.mem_ready.2 ⟨h2, ⟨some d, .move (.const v), T, pos, af, none⟩, by rw [List.getElem?_toArray, List.getElem?_set_self hlt], h4⟩
  have h5 := h1.2 i hri'
  have hl1 : ((Array.replicate (m + 1) false).setIfInBounds i true).getD i true = true := by
    have : i < m + 1 := by omega
    simp [this]
  have h6 : wpAny P .any (ops.set i ⟨some d, .move (.const v), T, pos, af, none⟩).toArray Q m ((Array.replicate (m + 1) false).setIfInBounds i true) (a.put (some d) v) w := by
    unfold wpOp at h5
    rw [List.getElem?_toArray, List.getElem?_set_self hlt] at h5
    simp only [Region.wanted, ↓reduceIte, Oper.wp, execOp, Act.eval, Sem.run_bind, Sem.run_pure, Result.andThen, Oper.upon] at h5
    rcases h5 with h5 | h5
    · exact h5
    · exact absurd h5.1 (by
      intro h8
      simp [Oper.asks, execOp, Act.eval, go_sem] at h8
      rw [show Sem.events P (pure (Next.value v)) w #[] = #[] from rfl] at h8
      simp at h8)
  have h7 := wpAny_same (ops := ops) (ops' := ops.set i ⟨some d, .move (.const v), T, pos, af, none⟩) (by rw [List.length_set]) (fun j hj => List.getElem?_set_ne (Ne.symm hj)) (by rw [List.getElem?_set_self hlt, hop]; rfl) m _ _ w hl1 h6
  refine wpAny_take (v := v) (by rw [List.getElem?_toArray]; exact hop) hns (by rw [List.size_toArray, hm] at hf; exact hf) (by rw [List.size_toArray, hm] at hr; exact hr) hQ (.inl ⟨rfl, fun w => ?_⟩) h7
  simp [execOp, Act.eval, ha.get t v hv]
end
end Go.BK
namespace Go.Proofs.Ytoaajdmacngnjaa
open Go.RowKit Go.BK
def underF (xs : List Wr) : Nat := (xs.map wSize).sum
/-- How much a key's wire weighs. -/
def kW (xs : List Wr) : Value → Int
  | .int _ p => (wSize (xs.getD (ixW xs p) default) : Int)
  | _ => 0
def leftW (f : MapEntry → Int) (es : Array MapEntry) (seen : Array Nat) : Int := ((es.toList.filter fun x => !seen.contains x.born).map f).sum
theorem kW_nn (xs : List Wr) (v : Value) : 0 ≤ kW xs v := by
  unfold kW
  split
  · omega
  · exact Int.le_refl _
theorem sum_nn {l : List MapEntry} {f : MapEntry → Int} (h : ∀ x, 0 ≤ f x) : 0 ≤ (l.map f).sum := by
  induction l with
  | nil => exact Int.le_refl _
  | cons a l ih => rw [List.map_cons, List.sum_cons]; have := h a; omega
theorem ixW_at : ∀ (xs : List Wr) (i : Nat), (xs.map (·.p)).Nodup → i < xs.length → ixW xs (xs.getD i default).p = i
  | [], i, _, h => by simp at h
  | q :: r, 0, _, _ => by unfold ixW; show (if q.p = q.p then 0 else _) = 0; rw [if_pos rfl]
  | q :: r, i + 1, hd, h => by
    rw [List.map_cons, List.nodup_cons] at hd
    have h' : i < r.length := by simpa using h
    rw [List.getD_cons_succ]
    unfold ixW
    rw [if_neg, ixW_at r i hd.2 h']
    intro e
    apply hd.1
    rw [← e, List.getD_eq_getElem?_getD, List.getElem?_eq_getElem h']
    exact List.mem_map.2 ⟨_, List.getElem_mem h', rfl⟩
theorem ent_at {es : List MapEntry} {zs : Zs} (hE : EntOk es (zs.map kv)) {e : MapEntry} (he : e ∈ es) : ∃ i, i < zs.length ∧ e.key = i64 (zs.getD i default).1.p ∧ e.val = ptr (zs.getD i default).2 0 := by
  have : (e.key, e.val) ∈ es.map fun e => (e.key, e.val) := List.mem_map.2 ⟨e, he, rfl⟩
  rw [hE] at this
  obtain ⟨p, hp, h1⟩ := List.mem_map.1 this
  obtain ⟨z, hz, rfl⟩ := List.mem_map.1 hp
  obtain ⟨i, hi, rfl⟩ := List.getElem_of_mem hz
  simp only [Prod.mk.injEq] at h1
  refine ⟨i, hi, ?_, ?_⟩
  · rw [← h1.1, List.getD_eq_getElem?_getD, List.getElem?_eq_getElem hi]; rfl
  · rw [← h1.2, List.getD_eq_getElem?_getD, List.getElem?_eq_getElem hi]; rfl
theorem cast_sum (l : List Wr) : (((l.map wSize).sum : Nat) : Int) = (l.map fun q => (wSize q : Int)).sum := by
  induction l with
  | nil => rfl
  | cons a l ih => rw [List.map_cons, List.sum_cons, List.map_cons, List.sum_cons, ← ih]; omega
theorem total_W {es : List MapEntry} {zs : Zs} {xs : List Wr} (hE : EntOk es (zs.map kv)) (hz : zs.map (·.1) = xs) (hd : (xs.map (·.p)).Nodup) : (es.map fun e => kW xs e.key).sum = (underF xs : Int) := by
  have h1 : (es.map fun e => kW xs e.key) = (es.map fun e => (e.key, e.val)).map fun p => kW xs p.1 := by rw [List.map_map]; rfl
  rw [h1, hE, List.map_map, List.map_map]
  have h2 : zs.map (((fun p : Value × Value => kW xs p.1) ∘ fun p : Int × Value => (i64 p.1, p.2)) ∘ kv) = xs.map fun q => (wSize q : Int) := by
    subst hz
    rw [List.map_map]
    apply List.ext_getElem (by simp)
    intro i h1 h2
    have hi : i < zs.length := by simpa using h1
    rw [List.getElem_map, List.getElem_map]
    have hix : i < (zs.map (·.1)).length := by rw [List.length_map]; exact hi
    have e : (zs.map (·.1)).getD i default = zs[i].1 := by
      rw [map_getD (·.1) zs i hi, List.getD_eq_getElem?_getD, List.getElem?_eq_getElem hi]; rfl
    show (wSize ((zs.map (·.1)).getD (ixW (zs.map (·.1)) zs[i].1.p) default) : Int) = (wSize zs[i].1 : Int)
    rw [← e, ixW_at (zs.map (·.1)) i hd hix]
  rw [h2]
  unfold underF
  exact (cast_sum xs).symm
set_option maxHeartbeats 1000000 in
theorem under_spec (wb : Nat) (xs : List Wr) (w : World) (S : BSet) (hS : (sepL []).sat S w) (hx : Sees w S (wiresH wb xs)) (hd : (xs.map (·.p)).Nodup) (hn : underF xs ≤ 2147483648) :
    Tri Try.prog 17 #[ptr wb 0] w S fun u A => u = i64 (underF xs) ∧ A = [] := by
  refine Tri.enter (l := [ptr wb 0]) Try.func17 rfl Try.ntmps17 rfl [(0, ptr wb 0)] (subA rfl) hS ?_
  obtain ⟨mb, zs, hz, hB, hT, hW⟩ := Sees.openW hx
  obtain ⟨es, clock, hO, hE, hSt⟩ := Sees.tmap hT
  have htot := total_W hE hz hd
  repeat first
    | (apply WL.q; exact rfl; exact rfl; exact rfl; (first | (apply EvW.move; exact rfl) | (apply EvW.assign; exact rfl) | (apply EvW.nilPtr; exact rfl) | (apply EvW.fieldAddr0; exact rfl; exact FldC.eq) | (apply EvW.fieldAddr; exact rfl; exact FldC.eq) | (apply EvW.load; exact rfl; exact ScalC.eq; (focus ((repeat constructor); done)); exact rfl) | (apply EvW.ldSeen; exact rfl; exact ScalC.eq; assumption; (first | exact rfl | assumption)) | (apply EvW.ldFld; exact rfl; exact ScalC.eq; assumption; exact fun _ => rfl; omega; exact rfl; exact inferInstance) | (apply EvW.extract; exact rfl; exact rfl) | (apply EvW.lenL; exact rfl; exact UndC.eq) | (apply EvW.arN; exact rfl; exact rfl; exact rfl; refine i64_in ?_ ?_ <;> omega) | (apply EvW.ar; exact rfl; exact rfl; exact rfl) | (apply EvW.lenRow; exact rfl; exact UndC.eq; assumption) | (apply EvW.lenOwn; exact rfl; exact UndC.eq; (focus ((repeat constructor); done))) | (apply EvW.fldRow; exact rfl; exact FldC.eq; assumption; omega) | (apply EvW.fldOwn; exact rfl; exact FldC.eq; (focus ((repeat constructor); done)); omega) | (apply EvW.nilElemOwn; exact rfl; (focus ((repeat constructor); done)); omega) | (apply EvW.nilElemRow; exact rfl; assumption; omega) | (apply EvW.ldFldOwn; exact rfl; exact ScalC.eq; (focus ((repeat constructor); done)); exact fun _ => rfl; omega; exact rfl; exact inferInstance)))
    | refine WC.seq ?_ | refine WC.region ?_ | refine WL.nil ?_ | refine WE.next ?_ | refine WC.block ?_ | refine WC.skip ?_ | refine WC.exit ?_ | refine WE.pass ?_ | refine WE.hit ?_ | refine WE.miss rfl ?_ | refine WE.out ?_ | refine WC.condT rfl ?_ | refine WC.condF rfl ?_ | refine WC.ret ?_ | refine WE.passRet ?_ | refine WE.outRet ?_ | refine WL.wanted rfl rfl rfl ?_
  (apply WL.rangeS; exact rfl; exact rfl; exact UndC.eq; exact hO; intro r)
  repeat first
    | (apply WL.q; exact rfl; exact rfl; exact rfl; (first | (apply EvW.move; exact rfl) | (apply EvW.assign; exact rfl) | (apply EvW.nilPtr; exact rfl) | (apply EvW.fieldAddr0; exact rfl; exact FldC.eq) | (apply EvW.fieldAddr; exact rfl; exact FldC.eq) | (apply EvW.load; exact rfl; exact ScalC.eq; (focus ((repeat constructor); done)); exact rfl) | (apply EvW.ldSeen; exact rfl; exact ScalC.eq; assumption; (first | exact rfl | assumption)) | (apply EvW.ldFld; exact rfl; exact ScalC.eq; assumption; exact fun _ => rfl; omega; exact rfl; exact inferInstance) | (apply EvW.extract; exact rfl; exact rfl) | (apply EvW.lenL; exact rfl; exact UndC.eq) | (apply EvW.arN; exact rfl; exact rfl; exact rfl; refine i64_in ?_ ?_ <;> omega) | (apply EvW.ar; exact rfl; exact rfl; exact rfl) | (apply EvW.lenRow; exact rfl; exact UndC.eq; assumption) | (apply EvW.lenOwn; exact rfl; exact UndC.eq; (focus ((repeat constructor); done))) | (apply EvW.fldRow; exact rfl; exact FldC.eq; assumption; omega) | (apply EvW.fldOwn; exact rfl; exact FldC.eq; (focus ((repeat constructor); done)); omega) | (apply EvW.nilElemOwn; exact rfl; (focus ((repeat constructor); done)); omega) | (apply EvW.nilElemRow; exact rfl; assumption; omega) | (apply EvW.ldFldOwn; exact rfl; exact ScalC.eq; (focus ((repeat constructor); done)); exact fun _ => rfl; omega; exact rfl; exact inferInstance)))
    | refine WC.seq ?_ | refine WC.region ?_ | refine WL.nil ?_ | refine WE.next ?_ | refine WC.block ?_ | refine WC.skip ?_ | refine WC.exit ?_ | refine WE.pass ?_ | refine WE.hit ?_ | refine WE.miss rfl ?_ | refine WE.out ?_ | refine WC.condT rfl ?_ | refine WC.condF rfl ?_ | refine WC.ret ?_ | refine WE.passRet ?_ | refine WE.outRet ?_ | refine WL.wanted rfl rfl rfl ?_
  refine WC.loopK (σ := Int × Array Nat) [10] (fun s => [(3, i64 s.1)]) (fun s => [.obj r (.mapIter (some mb) clock s.2 clock)]) (fun s => s.1 + leftW (fun e => kW xs e.key) es s.2 = (underF xs : Int) ∧ 0 ≤ s.1) (fun s => (leftOf es s.2).size) (0, #[]) (by (focus ((repeat (first | exact Pick.nil | (apply Pick.cons; exact rfl))); done))) (by (focus ((repeat (first | exact trivial | (refine ⟨rfl, ?_⟩))); done))) (fun _ h => h.keep (by repeat constructor)) ⟨by rw [← htot, show leftW (fun e => kW xs e.key) es #[] = (es.toList.map fun e => kW xs e.key).sum from by unfold leftW; rw [show (es.toList.filter fun x => !(#[] : Array Nat).contains x.born) = es.toList from List.filter_eq_self.2 fun _ _ => by simp]]; simp, Int.le_refl _⟩ (fun s hs => ?_)
  obtain ⟨cnt, seen⟩ := s
  simp only [List.cons_append, List.nil_append] at hs ⊢
  obtain ⟨hc, hc0⟩ := hs
  repeat first
    | (apply WL.q; exact rfl; exact rfl; exact rfl; (first | (apply EvW.move; exact rfl) | (apply EvW.assign; exact rfl) | (apply EvW.nilPtr; exact rfl) | (apply EvW.fieldAddr0; exact rfl; exact FldC.eq) | (apply EvW.fieldAddr; exact rfl; exact FldC.eq) | (apply EvW.load; exact rfl; exact ScalC.eq; (focus ((repeat constructor); done)); exact rfl) | (apply EvW.ldSeen; exact rfl; exact ScalC.eq; assumption; (first | exact rfl | assumption)) | (apply EvW.ldFld; exact rfl; exact ScalC.eq; assumption; exact fun _ => rfl; omega; exact rfl; exact inferInstance) | (apply EvW.extract; exact rfl; exact rfl) | (apply EvW.lenL; exact rfl; exact UndC.eq) | (apply EvW.arN; exact rfl; exact rfl; exact rfl; refine i64_in ?_ ?_ <;> omega) | (apply EvW.ar; exact rfl; exact rfl; exact rfl) | (apply EvW.lenRow; exact rfl; exact UndC.eq; assumption) | (apply EvW.lenOwn; exact rfl; exact UndC.eq; (focus ((repeat constructor); done))) | (apply EvW.fldRow; exact rfl; exact FldC.eq; assumption; omega) | (apply EvW.fldOwn; exact rfl; exact FldC.eq; (focus ((repeat constructor); done)); omega) | (apply EvW.nilElemOwn; exact rfl; (focus ((repeat constructor); done)); omega) | (apply EvW.nilElemRow; exact rfl; assumption; omega) | (apply EvW.ldFldOwn; exact rfl; exact ScalC.eq; (focus ((repeat constructor); done)); exact fun _ => rfl; omega; exact rfl; exact inferInstance)))
    | refine WC.seq ?_ | refine WC.region ?_ | refine WL.nil ?_ | refine WE.next ?_ | refine WC.block ?_ | refine WC.skip ?_ | refine WC.exit ?_ | refine WE.pass ?_ | refine WE.hit ?_ | refine WE.miss rfl ?_ | refine WE.out ?_ | refine WC.condT rfl ?_ | refine WC.condF rfl ?_ | refine WC.ret ?_ | refine WE.passRet ?_ | refine WE.outRet ?_ | refine WL.wanted rfl rfl rfl ?_
  (apply WL.nextS; exact rfl; exact rfl; exact hO; exact hSt)
  · intro h0
    have hl0 : leftW (fun e => kW xs e.key) es seen = 0 := by
      have : (leftOf es seen).toList = [] := List.eq_nil_of_length_eq_zero (by rw [Array.length_toList]; exact h0)
      rw [left_list] at this
      unfold leftW
      rw [this]; rfl
    obtain rfl : cnt = (underF xs : Int) := by omega
    repeat first
      | (apply WL.q; exact rfl; exact rfl; exact rfl; (first | (apply EvW.move; exact rfl) | (apply EvW.assign; exact rfl) | (apply EvW.nilPtr; exact rfl) | (apply EvW.fieldAddr0; exact rfl; exact FldC.eq) | (apply EvW.fieldAddr; exact rfl; exact FldC.eq) | (apply EvW.load; exact rfl; exact ScalC.eq; (focus ((repeat constructor); done)); exact rfl) | (apply EvW.ldSeen; exact rfl; exact ScalC.eq; assumption; (first | exact rfl | assumption)) | (apply EvW.ldFld; exact rfl; exact ScalC.eq; assumption; exact fun _ => rfl; omega; exact rfl; exact inferInstance) | (apply EvW.extract; exact rfl; exact rfl) | (apply EvW.lenL; exact rfl; exact UndC.eq) | (apply EvW.arN; exact rfl; exact rfl; exact rfl; refine i64_in ?_ ?_ <;> omega) | (apply EvW.ar; exact rfl; exact rfl; exact rfl) | (apply EvW.lenRow; exact rfl; exact UndC.eq; assumption) | (apply EvW.lenOwn; exact rfl; exact UndC.eq; (focus ((repeat constructor); done))) | (apply EvW.fldRow; exact rfl; exact FldC.eq; assumption; omega) | (apply EvW.fldOwn; exact rfl; exact FldC.eq; (focus ((repeat constructor); done)); omega) | (apply EvW.nilElemOwn; exact rfl; (focus ((repeat constructor); done)); omega) | (apply EvW.nilElemRow; exact rfl; assumption; omega) | (apply EvW.ldFldOwn; exact rfl; exact ScalC.eq; (focus ((repeat constructor); done)); exact fun _ => rfl; omega; exact rfl; exact inferInstance)))
      | refine WC.seq ?_ | refine WC.region ?_ | refine WL.nil ?_ | refine WE.next ?_ | refine WC.block ?_ | refine WC.skip ?_ | refine WC.exit ?_ | refine WE.pass ?_ | refine WE.hit ?_ | refine WE.miss rfl ?_ | refine WE.out ?_ | refine WC.condT rfl ?_ | refine WC.condF rfl ?_ | refine WC.ret ?_ | refine WE.passRet ?_ | refine WE.outRet ?_ | refine WL.wanted rfl rfl rfl ?_
    refine WE.bare ?_
    refine WE.ret1 rfl rfl ?_
    exact ⟨rfl, rfl⟩
  · intro e he
    obtain ⟨he1, he2⟩ := mem_left he
    obtain ⟨i, hi, hk, hv⟩ := ent_at hE he1
    have hix : i < xs.length := by rw [← hz, List.length_map]; exact hi
    have hqi : xs.getD i default = (zs.getD i default).1 := by rw [← hz]; exact map_getD (·.1) zs i hi
    have hfe : kW xs e.key = (wSize (zs.getD i default).1 : Int) := by
      rw [hk]
      show (wSize (xs.getD (ixW xs (zs.getD i default).1.p) default) : Int) = _
      rw [← hqi, ixW_at xs i hd hix]
    have hwz : Sees w S (wz (zs.getD i default)) := hW.part (take_at (take_map_at (d := default) hi))
    obtain ⟨⟨vd, vh⟩, hww⟩ := Sees.ex hwz
    have hb1 := hww.part .head
    have hb2 := (hww.part (.tail .head)).own
    have hb3 := (hww.part (.tail (.tail .head))).own
    have hsum := left_sum (fun e => kW xs e.key) seen e es.toList hSt.2.1 he1 he2
    have hleft : leftW (fun e => kW xs e.key) es (seen.push e.born) + kW xs e.key = leftW (fun e => kW xs e.key) es seen := hsum
    have hnn : 0 ≤ leftW (fun e => kW xs e.key) es (seen.push e.born) := sum_nn fun x => kW_nn xs _
    have hmu := left_shrinks es seen e he
    generalize (zs.getD i default).2 = bb at hv hb1
    generalize (zs.getD i default).1 = q at hfe hb1 hb2 hb3
    have hsz : wSize q = q.due.length + q.held.length := rfl
    rw [hfe, hsz] at hleft
    dsimp only at hb1 hb2 hb3
    repeat first
      | (apply WL.q; exact rfl; exact rfl; exact rfl; (first | (apply EvW.move; exact rfl) | (apply EvW.assign; exact rfl) | (apply EvW.nilPtr; exact rfl) | (apply EvW.fieldAddr0; exact rfl; exact FldC.eq) | (apply EvW.fieldAddr; exact rfl; exact FldC.eq) | (apply EvW.load; exact rfl; exact ScalC.eq; (focus ((repeat constructor); done)); exact rfl) | (apply EvW.ldSeen; exact rfl; exact ScalC.eq; assumption; (first | exact rfl | assumption)) | (apply EvW.ldFld; exact rfl; exact ScalC.eq; assumption; exact fun _ => rfl; omega; exact rfl; exact inferInstance) | (apply EvW.extract; exact rfl; exact rfl) | (apply EvW.lenL; exact rfl; exact UndC.eq) | (apply EvW.arN; exact rfl; exact rfl; exact rfl; refine i64_in ?_ ?_ <;> omega) | (apply EvW.ar; exact rfl; exact rfl; exact rfl) | (apply EvW.lenRow; exact rfl; exact UndC.eq; assumption) | (apply EvW.lenOwn; exact rfl; exact UndC.eq; (focus ((repeat constructor); done))) | (apply EvW.fldRow; exact rfl; exact FldC.eq; assumption; omega) | (apply EvW.fldOwn; exact rfl; exact FldC.eq; (focus ((repeat constructor); done)); omega) | (apply EvW.nilElemOwn; exact rfl; (focus ((repeat constructor); done)); omega) | (apply EvW.nilElemRow; exact rfl; assumption; omega) | (apply EvW.ldFldOwn; exact rfl; exact ScalC.eq; (focus ((repeat constructor); done)); exact fun _ => rfl; omega; exact rfl; exact inferInstance)))
      | refine WC.seq ?_ | refine WC.region ?_ | refine WL.nil ?_ | refine WE.next ?_ | refine WC.block ?_ | refine WC.skip ?_ | refine WC.exit ?_ | refine WE.pass ?_ | refine WE.hit ?_ | refine WE.miss rfl ?_ | refine WE.out ?_ | refine WC.condT rfl ?_ | refine WC.condF rfl ?_ | refine WC.ret ?_ | refine WE.passRet ?_ | refine WE.outRet ?_ | refine WL.wanted rfl rfl rfl ?_
    (apply WL.q; exact rfl; exact rfl; exact rfl; (apply EvW.entryS; exact rfl; exact hO; exact hSt; exact he1))
    rw [hv]
    repeat first
      | (apply WL.q; exact rfl; exact rfl; exact rfl; (first | (apply EvW.move; exact rfl) | (apply EvW.assign; exact rfl) | (apply EvW.nilPtr; exact rfl) | (apply EvW.fieldAddr0; exact rfl; exact FldC.eq) | (apply EvW.fieldAddr; exact rfl; exact FldC.eq) | (apply EvW.load; exact rfl; exact ScalC.eq; (focus ((repeat constructor); done)); exact rfl) | (apply EvW.ldSeen; exact rfl; exact ScalC.eq; assumption; (first | exact rfl | assumption)) | (apply EvW.ldFld; exact rfl; exact ScalC.eq; assumption; exact fun _ => rfl; omega; exact rfl; exact inferInstance) | (apply EvW.extract; exact rfl; exact rfl) | (apply EvW.lenL; exact rfl; exact UndC.eq) | (apply EvW.arN; exact rfl; exact rfl; exact rfl; refine i64_in ?_ ?_ <;> omega) | (apply EvW.ar; exact rfl; exact rfl; exact rfl) | (apply EvW.lenRow; exact rfl; exact UndC.eq; assumption) | (apply EvW.lenOwn; exact rfl; exact UndC.eq; (focus ((repeat constructor); done))) | (apply EvW.fldRow; exact rfl; exact FldC.eq; assumption; omega) | (apply EvW.fldOwn; exact rfl; exact FldC.eq; (focus ((repeat constructor); done)); omega) | (apply EvW.nilElemOwn; exact rfl; (focus ((repeat constructor); done)); omega) | (apply EvW.nilElemRow; exact rfl; assumption; omega) | (apply EvW.ldFldOwn; exact rfl; exact ScalC.eq; (focus ((repeat constructor); done)); exact fun _ => rfl; omega; exact rfl; exact inferInstance)))
      | refine WC.seq ?_ | refine WC.region ?_ | refine WL.nil ?_ | refine WE.next ?_ | refine WC.block ?_ | refine WC.skip ?_ | refine WC.exit ?_ | refine WE.pass ?_ | refine WE.hit ?_ | refine WE.miss rfl ?_ | refine WE.out ?_ | refine WC.condT rfl ?_ | refine WC.condF rfl ?_ | refine WC.ret ?_ | refine WE.passRet ?_ | refine WE.outRet ?_ | refine WL.wanted rfl rfl rfl ?_
    repeat refine WC.seq ?_
    refine WC.keep (xs := [.obj r (.mapIter (some mb) clock (seen.push e.born) clock)]) (by repeat constructor) ?_
    refine WC.ofWA Try.mixed ?_
    refine WA.moveFirst 0 rfl rfl (by (first | decide +kernel | exact rfl)) (by (first | decide +kernel | exact rfl)) (by (first | decide +kernel | exact rfl)) (fun _ _ _ h => h) (by (first | decide +kernel | exact rfl)) ?_
    simp only [List.set_cons_zero, List.set_cons_succ]
    apply WA.par _ (fun c : Ch => [.obj r (.mapIter (some mb) clock (seen.push e.born) clock)]) [none] [none] []
    · (focus ((repeat (first | exact Restr.nil | (apply Restr.keep; exact rfl; exact rfl) | (apply Restr.drop; exact rfl))); done))
    · intro c; exact (by repeat constructor)
    · exact rfl
    · (first | decide +kernel | exact rfl)
    · (first | decide +kernel | exact rfl)
    · intro c
      (apply Par.quiet _ [true]; exact rfl; (first | decide +kernel | exact rfl); exact rfl; intro R; refine ⟨_, (by repeat constructor), ?_⟩;
           (first | (apply EvW.move; exact rfl) | (apply EvW.assign; exact rfl) | (apply EvW.nilPtr; exact rfl) | (apply EvW.fieldAddr0; exact rfl; exact FldC.eq) | (apply EvW.fieldAddr; exact rfl; exact FldC.eq) | (apply EvW.load; exact rfl; exact ScalC.eq; (focus ((repeat constructor); done)); exact rfl) | (apply EvW.ldSeen; exact rfl; exact ScalC.eq; assumption; (first | exact rfl | assumption)) | (apply EvW.ldFld; exact rfl; exact ScalC.eq; assumption; exact fun _ => rfl; omega; exact rfl; exact inferInstance) | (apply EvW.extract; exact rfl; exact rfl) | (apply EvW.lenL; exact rfl; exact UndC.eq) | (apply EvW.arN; exact rfl; exact rfl; exact rfl; refine i64_in ?_ ?_ <;> omega) | (apply EvW.ar; exact rfl; exact rfl; exact rfl) | (apply EvW.lenRow; exact rfl; exact UndC.eq; assumption) | (apply EvW.lenOwn; exact rfl; exact UndC.eq; (focus ((repeat constructor); done))) | (apply EvW.fldRow; exact rfl; exact FldC.eq; assumption; omega) | (apply EvW.fldOwn; exact rfl; exact FldC.eq; (focus ((repeat constructor); done)); omega) | (apply EvW.nilElemOwn; exact rfl; (focus ((repeat constructor); done)); omega) | (apply EvW.nilElemRow; exact rfl; assumption; omega) | (apply EvW.ldFldOwn; exact rfl; exact ScalC.eq; (focus ((repeat constructor); done)); exact fun _ => rfl; omega; exact rfl; exact inferInstance)))
      (apply Par.quiet _ [true]; exact rfl; (first | decide +kernel | exact rfl); exact rfl; intro R; refine ⟨_, (by repeat constructor), ?_⟩;
           (first | (apply EvW.move; exact rfl) | (apply EvW.assign; exact rfl) | (apply EvW.nilPtr; exact rfl) | (apply EvW.fieldAddr0; exact rfl; exact FldC.eq) | (apply EvW.fieldAddr; exact rfl; exact FldC.eq) | (apply EvW.load; exact rfl; exact ScalC.eq; (focus ((repeat constructor); done)); exact rfl) | (apply EvW.ldSeen; exact rfl; exact ScalC.eq; assumption; (first | exact rfl | assumption)) | (apply EvW.ldFld; exact rfl; exact ScalC.eq; assumption; exact fun _ => rfl; omega; exact rfl; exact inferInstance) | (apply EvW.extract; exact rfl; exact rfl) | (apply EvW.lenL; exact rfl; exact UndC.eq) | (apply EvW.arN; exact rfl; exact rfl; exact rfl; refine i64_in ?_ ?_ <;> omega) | (apply EvW.ar; exact rfl; exact rfl; exact rfl) | (apply EvW.lenRow; exact rfl; exact UndC.eq; assumption) | (apply EvW.lenOwn; exact rfl; exact UndC.eq; (focus ((repeat constructor); done))) | (apply EvW.fldRow; exact rfl; exact FldC.eq; assumption; omega) | (apply EvW.fldOwn; exact rfl; exact FldC.eq; (focus ((repeat constructor); done)); omega) | (apply EvW.nilElemOwn; exact rfl; (focus ((repeat constructor); done)); omega) | (apply EvW.nilElemRow; exact rfl; assumption; omega) | (apply EvW.ldFldOwn; exact rfl; exact ScalC.eq; (focus ((repeat constructor); done)); exact fun _ => rfl; omega; exact rfl; exact inferInstance)))
      (apply Par.quiet _ [true]; exact rfl; (first | decide +kernel | exact rfl); exact rfl; intro R; refine ⟨_, (by repeat constructor), ?_⟩;
           (first | (apply EvW.move; exact rfl) | (apply EvW.assign; exact rfl) | (apply EvW.nilPtr; exact rfl) | (apply EvW.fieldAddr0; exact rfl; exact FldC.eq) | (apply EvW.fieldAddr; exact rfl; exact FldC.eq) | (apply EvW.load; exact rfl; exact ScalC.eq; (focus ((repeat constructor); done)); exact rfl) | (apply EvW.ldSeen; exact rfl; exact ScalC.eq; assumption; (first | exact rfl | assumption)) | (apply EvW.ldFld; exact rfl; exact ScalC.eq; assumption; exact fun _ => rfl; omega; exact rfl; exact inferInstance) | (apply EvW.extract; exact rfl; exact rfl) | (apply EvW.lenL; exact rfl; exact UndC.eq) | (apply EvW.arN; exact rfl; exact rfl; exact rfl; refine i64_in ?_ ?_ <;> omega) | (apply EvW.ar; exact rfl; exact rfl; exact rfl) | (apply EvW.lenRow; exact rfl; exact UndC.eq; assumption) | (apply EvW.lenOwn; exact rfl; exact UndC.eq; (focus ((repeat constructor); done))) | (apply EvW.fldRow; exact rfl; exact FldC.eq; assumption; omega) | (apply EvW.fldOwn; exact rfl; exact FldC.eq; (focus ((repeat constructor); done)); omega) | (apply EvW.nilElemOwn; exact rfl; (focus ((repeat constructor); done)); omega) | (apply EvW.nilElemRow; exact rfl; assumption; omega) | (apply EvW.ldFldOwn; exact rfl; exact ScalC.eq; (focus ((repeat constructor); done)); exact fun _ => rfl; omega; exact rfl; exact inferInstance)))
      (apply Par.quiet _ [true]; exact rfl; (first | decide +kernel | exact rfl); exact rfl; intro R; refine ⟨_, (by repeat constructor), ?_⟩;
           (first | (apply EvW.move; exact rfl) | (apply EvW.assign; exact rfl) | (apply EvW.nilPtr; exact rfl) | (apply EvW.fieldAddr0; exact rfl; exact FldC.eq) | (apply EvW.fieldAddr; exact rfl; exact FldC.eq) | (apply EvW.load; exact rfl; exact ScalC.eq; (focus ((repeat constructor); done)); exact rfl) | (apply EvW.ldSeen; exact rfl; exact ScalC.eq; assumption; (first | exact rfl | assumption)) | (apply EvW.ldFld; exact rfl; exact ScalC.eq; assumption; exact fun _ => rfl; omega; exact rfl; exact inferInstance) | (apply EvW.extract; exact rfl; exact rfl) | (apply EvW.lenL; exact rfl; exact UndC.eq) | (apply EvW.arN; exact rfl; exact rfl; exact rfl; refine i64_in ?_ ?_ <;> omega) | (apply EvW.ar; exact rfl; exact rfl; exact rfl) | (apply EvW.lenRow; exact rfl; exact UndC.eq; assumption) | (apply EvW.lenOwn; exact rfl; exact UndC.eq; (focus ((repeat constructor); done))) | (apply EvW.fldRow; exact rfl; exact FldC.eq; assumption; omega) | (apply EvW.fldOwn; exact rfl; exact FldC.eq; (focus ((repeat constructor); done)); omega) | (apply EvW.nilElemOwn; exact rfl; (focus ((repeat constructor); done)); omega) | (apply EvW.nilElemRow; exact rfl; assumption; omega) | (apply EvW.ldFldOwn; exact rfl; exact ScalC.eq; (focus ((repeat constructor); done)); exact fun _ => rfl; omega; exact rfl; exact inferInstance)))
      (apply Par.quiet _ [true]; exact rfl; (first | decide +kernel | exact rfl); exact rfl; intro R; refine ⟨_, (by repeat constructor), ?_⟩;
           (first | (apply EvW.move; exact rfl) | (apply EvW.assign; exact rfl) | (apply EvW.nilPtr; exact rfl) | (apply EvW.fieldAddr0; exact rfl; exact FldC.eq) | (apply EvW.fieldAddr; exact rfl; exact FldC.eq) | (apply EvW.load; exact rfl; exact ScalC.eq; (focus ((repeat constructor); done)); exact rfl) | (apply EvW.ldSeen; exact rfl; exact ScalC.eq; assumption; (first | exact rfl | assumption)) | (apply EvW.ldFld; exact rfl; exact ScalC.eq; assumption; exact fun _ => rfl; omega; exact rfl; exact inferInstance) | (apply EvW.extract; exact rfl; exact rfl) | (apply EvW.lenL; exact rfl; exact UndC.eq) | (apply EvW.arN; exact rfl; exact rfl; exact rfl; refine i64_in ?_ ?_ <;> omega) | (apply EvW.ar; exact rfl; exact rfl; exact rfl) | (apply EvW.lenRow; exact rfl; exact UndC.eq; assumption) | (apply EvW.lenOwn; exact rfl; exact UndC.eq; (focus ((repeat constructor); done))) | (apply EvW.fldRow; exact rfl; exact FldC.eq; assumption; omega) | (apply EvW.fldOwn; exact rfl; exact FldC.eq; (focus ((repeat constructor); done)); omega) | (apply EvW.nilElemOwn; exact rfl; (focus ((repeat constructor); done)); omega) | (apply EvW.nilElemRow; exact rfl; assumption; omega) | (apply EvW.ldFldOwn; exact rfl; exact ScalC.eq; (focus ((repeat constructor); done)); exact fun _ => rfl; omega; exact rfl; exact inferInstance)))
      (apply Par.quiet _ [true]; exact rfl; (first | decide +kernel | exact rfl); exact rfl; intro R; refine ⟨_, (by repeat constructor), ?_⟩;
           (first | (apply EvW.move; exact rfl) | (apply EvW.assign; exact rfl) | (apply EvW.nilPtr; exact rfl) | (apply EvW.fieldAddr0; exact rfl; exact FldC.eq) | (apply EvW.fieldAddr; exact rfl; exact FldC.eq) | (apply EvW.load; exact rfl; exact ScalC.eq; (focus ((repeat constructor); done)); exact rfl) | (apply EvW.ldSeen; exact rfl; exact ScalC.eq; assumption; (first | exact rfl | assumption)) | (apply EvW.ldFld; exact rfl; exact ScalC.eq; assumption; exact fun _ => rfl; omega; exact rfl; exact inferInstance) | (apply EvW.extract; exact rfl; exact rfl) | (apply EvW.lenL; exact rfl; exact UndC.eq) | (apply EvW.arN; exact rfl; exact rfl; exact rfl; refine i64_in ?_ ?_ <;> omega) | (apply EvW.ar; exact rfl; exact rfl; exact rfl) | (apply EvW.lenRow; exact rfl; exact UndC.eq; assumption) | (apply EvW.lenOwn; exact rfl; exact UndC.eq; (focus ((repeat constructor); done))) | (apply EvW.fldRow; exact rfl; exact FldC.eq; assumption; omega) | (apply EvW.fldOwn; exact rfl; exact FldC.eq; (focus ((repeat constructor); done)); omega) | (apply EvW.nilElemOwn; exact rfl; (focus ((repeat constructor); done)); omega) | (apply EvW.nilElemRow; exact rfl; assumption; omega) | (apply EvW.ldFldOwn; exact rfl; exact ScalC.eq; (focus ((repeat constructor); done)); exact fun _ => rfl; omega; exact rfl; exact inferInstance)))
      (apply Par.quiet _ [true]; exact rfl; (first | decide +kernel | exact rfl); exact rfl; intro R; refine ⟨_, (by repeat constructor), ?_⟩;
           (first | (apply EvW.move; exact rfl) | (apply EvW.assign; exact rfl) | (apply EvW.nilPtr; exact rfl) | (apply EvW.fieldAddr0; exact rfl; exact FldC.eq) | (apply EvW.fieldAddr; exact rfl; exact FldC.eq) | (apply EvW.load; exact rfl; exact ScalC.eq; (focus ((repeat constructor); done)); exact rfl) | (apply EvW.ldSeen; exact rfl; exact ScalC.eq; assumption; (first | exact rfl | assumption)) | (apply EvW.ldFld; exact rfl; exact ScalC.eq; assumption; exact fun _ => rfl; omega; exact rfl; exact inferInstance) | (apply EvW.extract; exact rfl; exact rfl) | (apply EvW.lenL; exact rfl; exact UndC.eq) | (apply EvW.arN; exact rfl; exact rfl; exact rfl; refine i64_in ?_ ?_ <;> omega) | (apply EvW.ar; exact rfl; exact rfl; exact rfl) | (apply EvW.lenRow; exact rfl; exact UndC.eq; assumption) | (apply EvW.lenOwn; exact rfl; exact UndC.eq; (focus ((repeat constructor); done))) | (apply EvW.fldRow; exact rfl; exact FldC.eq; assumption; omega) | (apply EvW.fldOwn; exact rfl; exact FldC.eq; (focus ((repeat constructor); done)); omega) | (apply EvW.nilElemOwn; exact rfl; (focus ((repeat constructor); done)); omega) | (apply EvW.nilElemRow; exact rfl; assumption; omega) | (apply EvW.ldFldOwn; exact rfl; exact ScalC.eq; (focus ((repeat constructor); done)); exact fun _ => rfl; omega; exact rfl; exact inferInstance)))
      (apply Par.quiet _ [true]; exact rfl; (first | decide +kernel | exact rfl); exact rfl; intro R; refine ⟨_, (by repeat constructor), ?_⟩;
           (first | (apply EvW.move; exact rfl) | (apply EvW.assign; exact rfl) | (apply EvW.nilPtr; exact rfl) | (apply EvW.fieldAddr0; exact rfl; exact FldC.eq) | (apply EvW.fieldAddr; exact rfl; exact FldC.eq) | (apply EvW.load; exact rfl; exact ScalC.eq; (focus ((repeat constructor); done)); exact rfl) | (apply EvW.ldSeen; exact rfl; exact ScalC.eq; assumption; (first | exact rfl | assumption)) | (apply EvW.ldFld; exact rfl; exact ScalC.eq; assumption; exact fun _ => rfl; omega; exact rfl; exact inferInstance) | (apply EvW.extract; exact rfl; exact rfl) | (apply EvW.lenL; exact rfl; exact UndC.eq) | (apply EvW.arN; exact rfl; exact rfl; exact rfl; refine i64_in ?_ ?_ <;> omega) | (apply EvW.ar; exact rfl; exact rfl; exact rfl) | (apply EvW.lenRow; exact rfl; exact UndC.eq; assumption) | (apply EvW.lenOwn; exact rfl; exact UndC.eq; (focus ((repeat constructor); done))) | (apply EvW.fldRow; exact rfl; exact FldC.eq; assumption; omega) | (apply EvW.fldOwn; exact rfl; exact FldC.eq; (focus ((repeat constructor); done)); omega) | (apply EvW.nilElemOwn; exact rfl; (focus ((repeat constructor); done)); omega) | (apply EvW.nilElemRow; exact rfl; assumption; omega) | (apply EvW.ldFldOwn; exact rfl; exact ScalC.eq; (focus ((repeat constructor); done)); exact fun _ => rfl; omega; exact rfl; exact inferInstance)))
      (apply Par.quiet _ [true]; exact rfl; (first | decide +kernel | exact rfl); exact rfl; intro R; refine ⟨_, (by repeat constructor), ?_⟩;
           (first | (apply EvW.move; exact rfl) | (apply EvW.assign; exact rfl) | (apply EvW.nilPtr; exact rfl) | (apply EvW.fieldAddr0; exact rfl; exact FldC.eq) | (apply EvW.fieldAddr; exact rfl; exact FldC.eq) | (apply EvW.load; exact rfl; exact ScalC.eq; (focus ((repeat constructor); done)); exact rfl) | (apply EvW.ldSeen; exact rfl; exact ScalC.eq; assumption; (first | exact rfl | assumption)) | (apply EvW.ldFld; exact rfl; exact ScalC.eq; assumption; exact fun _ => rfl; omega; exact rfl; exact inferInstance) | (apply EvW.extract; exact rfl; exact rfl) | (apply EvW.lenL; exact rfl; exact UndC.eq) | (apply EvW.arN; exact rfl; exact rfl; exact rfl; refine i64_in ?_ ?_ <;> omega) | (apply EvW.ar; exact rfl; exact rfl; exact rfl) | (apply EvW.lenRow; exact rfl; exact UndC.eq; assumption) | (apply EvW.lenOwn; exact rfl; exact UndC.eq; (focus ((repeat constructor); done))) | (apply EvW.fldRow; exact rfl; exact FldC.eq; assumption; omega) | (apply EvW.fldOwn; exact rfl; exact FldC.eq; (focus ((repeat constructor); done)); omega) | (apply EvW.nilElemOwn; exact rfl; (focus ((repeat constructor); done)); omega) | (apply EvW.nilElemRow; exact rfl; assumption; omega) | (apply EvW.ldFldOwn; exact rfl; exact ScalC.eq; (focus ((repeat constructor); done)); exact fun _ => rfl; omega; exact rfl; exact inferInstance)))
      (apply Par.quiet _ [true]; exact rfl; (first | decide +kernel | exact rfl); exact rfl; intro R; refine ⟨_, (by repeat constructor), ?_⟩;
           (first | (apply EvW.move; exact rfl) | (apply EvW.assign; exact rfl) | (apply EvW.nilPtr; exact rfl) | (apply EvW.fieldAddr0; exact rfl; exact FldC.eq) | (apply EvW.fieldAddr; exact rfl; exact FldC.eq) | (apply EvW.load; exact rfl; exact ScalC.eq; (focus ((repeat constructor); done)); exact rfl) | (apply EvW.ldSeen; exact rfl; exact ScalC.eq; assumption; (first | exact rfl | assumption)) | (apply EvW.ldFld; exact rfl; exact ScalC.eq; assumption; exact fun _ => rfl; omega; exact rfl; exact inferInstance) | (apply EvW.extract; exact rfl; exact rfl) | (apply EvW.lenL; exact rfl; exact UndC.eq) | (apply EvW.arN; exact rfl; exact rfl; exact rfl; refine i64_in ?_ ?_ <;> omega) | (apply EvW.ar; exact rfl; exact rfl; exact rfl) | (apply EvW.lenRow; exact rfl; exact UndC.eq; assumption) | (apply EvW.lenOwn; exact rfl; exact UndC.eq; (focus ((repeat constructor); done))) | (apply EvW.fldRow; exact rfl; exact FldC.eq; assumption; omega) | (apply EvW.fldOwn; exact rfl; exact FldC.eq; (focus ((repeat constructor); done)); omega) | (apply EvW.nilElemOwn; exact rfl; (focus ((repeat constructor); done)); omega) | (apply EvW.nilElemRow; exact rfl; assumption; omega) | (apply EvW.ldFldOwn; exact rfl; exact ScalC.eq; (focus ((repeat constructor); done)); exact fun _ => rfl; omega; exact rfl; exact inferInstance)))
      (apply Par.quiet _ [true]; exact rfl; (first | decide +kernel | exact rfl); exact rfl; intro R; refine ⟨_, (by repeat constructor), ?_⟩;
           (first | (apply EvW.move; exact rfl) | (apply EvW.assign; exact rfl) | (apply EvW.nilPtr; exact rfl) | (apply EvW.fieldAddr0; exact rfl; exact FldC.eq) | (apply EvW.fieldAddr; exact rfl; exact FldC.eq) | (apply EvW.load; exact rfl; exact ScalC.eq; (focus ((repeat constructor); done)); exact rfl) | (apply EvW.ldSeen; exact rfl; exact ScalC.eq; assumption; (first | exact rfl | assumption)) | (apply EvW.ldFld; exact rfl; exact ScalC.eq; assumption; exact fun _ => rfl; omega; exact rfl; exact inferInstance) | (apply EvW.extract; exact rfl; exact rfl) | (apply EvW.lenL; exact rfl; exact UndC.eq) | (apply EvW.arN; exact rfl; exact rfl; exact rfl; refine i64_in ?_ ?_ <;> omega) | (apply EvW.ar; exact rfl; exact rfl; exact rfl) | (apply EvW.lenRow; exact rfl; exact UndC.eq; assumption) | (apply EvW.lenOwn; exact rfl; exact UndC.eq; (focus ((repeat constructor); done))) | (apply EvW.fldRow; exact rfl; exact FldC.eq; assumption; omega) | (apply EvW.fldOwn; exact rfl; exact FldC.eq; (focus ((repeat constructor); done)); omega) | (apply EvW.nilElemOwn; exact rfl; (focus ((repeat constructor); done)); omega) | (apply EvW.nilElemRow; exact rfl; assumption; omega) | (apply EvW.ldFldOwn; exact rfl; exact ScalC.eq; (focus ((repeat constructor); done)); exact fun _ => rfl; omega; exact rfl; exact inferInstance)))
      (apply Par.quiet _ [true]; exact rfl; (first | decide +kernel | exact rfl); exact rfl; intro R; refine ⟨_, (by repeat constructor), ?_⟩;
           (first | (apply EvW.move; exact rfl) | (apply EvW.assign; exact rfl) | (apply EvW.nilPtr; exact rfl) | (apply EvW.fieldAddr0; exact rfl; exact FldC.eq) | (apply EvW.fieldAddr; exact rfl; exact FldC.eq) | (apply EvW.load; exact rfl; exact ScalC.eq; (focus ((repeat constructor); done)); exact rfl) | (apply EvW.ldSeen; exact rfl; exact ScalC.eq; assumption; (first | exact rfl | assumption)) | (apply EvW.ldFld; exact rfl; exact ScalC.eq; assumption; exact fun _ => rfl; omega; exact rfl; exact inferInstance) | (apply EvW.extract; exact rfl; exact rfl) | (apply EvW.lenL; exact rfl; exact UndC.eq) | (apply EvW.arN; exact rfl; exact rfl; exact rfl; refine i64_in ?_ ?_ <;> omega) | (apply EvW.ar; exact rfl; exact rfl; exact rfl) | (apply EvW.lenRow; exact rfl; exact UndC.eq; assumption) | (apply EvW.lenOwn; exact rfl; exact UndC.eq; (focus ((repeat constructor); done))) | (apply EvW.fldRow; exact rfl; exact FldC.eq; assumption; omega) | (apply EvW.fldOwn; exact rfl; exact FldC.eq; (focus ((repeat constructor); done)); omega) | (apply EvW.nilElemOwn; exact rfl; (focus ((repeat constructor); done)); omega) | (apply EvW.nilElemRow; exact rfl; assumption; omega) | (apply EvW.ldFldOwn; exact rfl; exact ScalC.eq; (focus ((repeat constructor); done)); exact fun _ => rfl; omega; exact rfl; exact inferInstance)))
      (apply Par.quiet _ [true]; exact rfl; (first | decide +kernel | exact rfl); exact rfl; intro R; refine ⟨_, (by repeat constructor), ?_⟩;
           (first | (apply EvW.move; exact rfl) | (apply EvW.assign; exact rfl) | (apply EvW.nilPtr; exact rfl) | (apply EvW.fieldAddr0; exact rfl; exact FldC.eq) | (apply EvW.fieldAddr; exact rfl; exact FldC.eq) | (apply EvW.load; exact rfl; exact ScalC.eq; (focus ((repeat constructor); done)); exact rfl) | (apply EvW.ldSeen; exact rfl; exact ScalC.eq; assumption; (first | exact rfl | assumption)) | (apply EvW.ldFld; exact rfl; exact ScalC.eq; assumption; exact fun _ => rfl; omega; exact rfl; exact inferInstance) | (apply EvW.extract; exact rfl; exact rfl) | (apply EvW.lenL; exact rfl; exact UndC.eq) | (apply EvW.arN; exact rfl; exact rfl; exact rfl; refine i64_in ?_ ?_ <;> omega) | (apply EvW.ar; exact rfl; exact rfl; exact rfl) | (apply EvW.lenRow; exact rfl; exact UndC.eq; assumption) | (apply EvW.lenOwn; exact rfl; exact UndC.eq; (focus ((repeat constructor); done))) | (apply EvW.fldRow; exact rfl; exact FldC.eq; assumption; omega) | (apply EvW.fldOwn; exact rfl; exact FldC.eq; (focus ((repeat constructor); done)); omega) | (apply EvW.nilElemOwn; exact rfl; (focus ((repeat constructor); done)); omega) | (apply EvW.nilElemRow; exact rfl; assumption; omega) | (apply EvW.ldFldOwn; exact rfl; exact ScalC.eq; (focus ((repeat constructor); done)); exact fun _ => rfl; omega; exact rfl; exact inferInstance)))
      (apply Par.quiet _ [true]; exact rfl; (first | decide +kernel | exact rfl); exact rfl; intro R; refine ⟨_, (by repeat constructor), ?_⟩;
           (first | (apply EvW.move; exact rfl) | (apply EvW.assign; exact rfl) | (apply EvW.nilPtr; exact rfl) | (apply EvW.fieldAddr0; exact rfl; exact FldC.eq) | (apply EvW.fieldAddr; exact rfl; exact FldC.eq) | (apply EvW.load; exact rfl; exact ScalC.eq; (focus ((repeat constructor); done)); exact rfl) | (apply EvW.ldSeen; exact rfl; exact ScalC.eq; assumption; (first | exact rfl | assumption)) | (apply EvW.ldFld; exact rfl; exact ScalC.eq; assumption; exact fun _ => rfl; omega; exact rfl; exact inferInstance) | (apply EvW.extract; exact rfl; exact rfl) | (apply EvW.lenL; exact rfl; exact UndC.eq) | (apply EvW.arN; exact rfl; exact rfl; exact rfl; refine i64_in ?_ ?_ <;> omega) | (apply EvW.ar; exact rfl; exact rfl; exact rfl) | (apply EvW.lenRow; exact rfl; exact UndC.eq; assumption) | (apply EvW.lenOwn; exact rfl; exact UndC.eq; (focus ((repeat constructor); done))) | (apply EvW.fldRow; exact rfl; exact FldC.eq; assumption; omega) | (apply EvW.fldOwn; exact rfl; exact FldC.eq; (focus ((repeat constructor); done)); omega) | (apply EvW.nilElemOwn; exact rfl; (focus ((repeat constructor); done)); omega) | (apply EvW.nilElemRow; exact rfl; assumption; omega) | (apply EvW.ldFldOwn; exact rfl; exact ScalC.eq; (focus ((repeat constructor); done)); exact fun _ => rfl; omega; exact rfl; exact inferInstance)))
      exact Par.nil
    · repeat (first | exact AllN.nil | (apply AllN.cons; (intro c x; (repeat (first | exact IndA.nil | (apply IndA.skip; (first | decide +kernel | exact rfl)) | apply IndA.same))))) 
    · repeat (first | exact AllN.nil | (apply AllN.cons; (intro c x; (repeat (first | exact IndT.nil | (apply IndT.skip; (first | decide +kernel | exact rfl)) | apply IndT.same))))) 
    · exact fun _ => rfl
    intro c
    refine ⟨_, (by repeat constructor), ?_⟩
    apply WE.writ
    · (focus ((repeat (first | exact Writ.nil | apply Writ.some | apply Writ.none)); done))
    repeat first
      | (apply WL.q; exact rfl; exact rfl; exact rfl; (first | (apply EvW.move; exact rfl) | (apply EvW.assign; exact rfl) | (apply EvW.nilPtr; exact rfl) | (apply EvW.fieldAddr0; exact rfl; exact FldC.eq) | (apply EvW.fieldAddr; exact rfl; exact FldC.eq) | (apply EvW.load; exact rfl; exact ScalC.eq; (focus ((repeat constructor); done)); exact rfl) | (apply EvW.ldSeen; exact rfl; exact ScalC.eq; assumption; (first | exact rfl | assumption)) | (apply EvW.ldFld; exact rfl; exact ScalC.eq; assumption; exact fun _ => rfl; omega; exact rfl; exact inferInstance) | (apply EvW.extract; exact rfl; exact rfl) | (apply EvW.lenL; exact rfl; exact UndC.eq) | (apply EvW.arN; exact rfl; exact rfl; exact rfl; refine i64_in ?_ ?_ <;> omega) | (apply EvW.ar; exact rfl; exact rfl; exact rfl) | (apply EvW.lenRow; exact rfl; exact UndC.eq; assumption) | (apply EvW.lenOwn; exact rfl; exact UndC.eq; (focus ((repeat constructor); done))) | (apply EvW.fldRow; exact rfl; exact FldC.eq; assumption; omega) | (apply EvW.fldOwn; exact rfl; exact FldC.eq; (focus ((repeat constructor); done)); omega) | (apply EvW.nilElemOwn; exact rfl; (focus ((repeat constructor); done)); omega) | (apply EvW.nilElemRow; exact rfl; assumption; omega) | (apply EvW.ldFldOwn; exact rfl; exact ScalC.eq; (focus ((repeat constructor); done)); exact fun _ => rfl; omega; exact rfl; exact inferInstance)))
      | refine WC.seq ?_ | refine WC.region ?_ | refine WL.nil ?_ | refine WE.next ?_ | refine WC.block ?_ | refine WC.skip ?_ | refine WC.exit ?_ | refine WE.pass ?_ | refine WE.hit ?_ | refine WE.miss rfl ?_ | refine WE.out ?_ | refine WC.condT rfl ?_ | refine WC.condF rfl ?_ | refine WC.ret ?_ | refine WE.passRet ?_ | refine WE.outRet ?_ | refine WL.wanted rfl rfl rfl ?_
    exact WE.again (s := (cnt, seen)) ((cnt + ((q.due.length : Int) + q.held.length), seen.push e.born)) ⟨by dsimp only; omega, by dsimp only; omega⟩ (by (focus ((repeat (first | exact trivial | (refine ⟨rfl, ?_⟩))); done))) (fun _ h => (by (try simp only []); exact h.keep (by repeat constructor))) (by (try simp only []); omega)
end Go.Proofs.Ytoaajdmacngnjaa
namespace Go.BK
theorem Tri.frame {P : Program} {f : FuncId} {args : Array Value} {w : World} {S : BSet} {R : Value → List HP → Prop} {A1 Y : List HP} (hS : (HP.star (sepL A1) (sepL Y)).sat S w)
    (h : ∀ S1, (sepL A1).sat S1 w → (∀ b, S1 b → S b) → Tri P f args w S1 R) : Tri P f args w S fun u A => ∃ A1', R u A1' ∧ A = A1' ++ Y := by
  obtain ⟨S1, S2, hu, hd, h1, h2⟩ := hS
  have ht := (h S1 h1 (fun b hb => (hu b).2 (.inl hb))).go
  refine ⟨ht.mono ?_⟩
  rintro e w' ⟨v, A', rfl, hR, S', h6, h7, h8⟩
  refine ⟨v, A' ++ Y, rfl, ⟨A', hR, rfl⟩, fun b => S' b ∨ S2 b, sepL_append ⟨S', S2, fun _ => Iff.rfl, fun b hb hb2 => ?_, h6, (sepL Y).loc h2 fun b hb => h7.keep b ((sepL Y).bnd h2 hb) fun h => hd b h hb⟩,
    ⟨h7.os, h7.tape, h7.output, h7.size, fun b hb hn => h7.keep b hb fun h => hn ((hu b).2 (.inl h))⟩, fun b hb => ?_⟩
  · rcases h8 b hb with h | h
    · exact hd b h hb2
    · have := (sepL Y).bnd h2 hb2; omega
  · rcases hb with hb | hb
    · rcases h8 b hb with h | h
      · exact .inl ((hu b).2 (.inl h))
      · exact .inr h
    · exact .inl ((hu b).2 (.inr hb))
theorem Tri.turn {P : Program} {f : FuncId} {args : Array Value} {w0 : World} {S0 : BSet} {R R' : Value → List HP → Prop} (h : Tri P f args w0 S0 R) (k : ∀ v A, R v A → ∃ A', R' v A' ∧ ∀ w, St w0 S0 A w → St w0 S0 A' w) : Tri P f args w0 S0 R' :=
  ⟨h.go.mono fun _ _ ⟨v, A, h1, h2, h3⟩ => by
    obtain ⟨A', hR, hs⟩ := k v A h2
    exact ⟨v, A', h1, hR, hs _ h3⟩⟩
end Go.BK
namespace Go.Proofs.Ytoaajdmacngnjaa
open Go.RowKit Go.BK
theorem wz_out {zs : Zs} {i : Nat} (hi : i < zs.length) {w : World} {S : BSet} (hS : (sepL [sepL ((zs).map wz)]).sat S w) : (HP.star (sepL [wz (zs.getD i default)]) (sepL [sepL ((zs.map wz).eraseIdx i)])).sat S w := by
  have h1 := star_emp' hS
  have h2 := (take_at (take_map_at (f := wz) (d := default) hi)).star h1
  exact star_mono h2 (fun _ h => star_emp h) fun _ h => star_emp h
theorem wz_in {zs : Zs} {i : Nat} (hi : i < zs.length) (z : Wr × Nat) {w0 w : World} {S0 : BSet} {r : List HP} (h : St w0 S0 (wz z :: sepL ((zs.map wz).eraseIdx i) :: r) w) : St w0 S0 (sepL (((zs.set i z)).map wz) :: r) w :=
  St.backL .head .head (take_map_set z hi) h
theorem ready_all (zs : Zs) (i : Nat) (w : World) (S : BSet) (hS : (sepL [sepL ((zs).map wz)]).sat S w) (hi : i < zs.length) (hn : wSize (zs.getD i default).1 ≤ 2147483648) :
    Tri Try.prog 23 #[ptr (zs.getD i default).2 0] w S fun u A => A = [.own 9 1 (u) ((readyO (zs.getD i default).1)).length (((readyO (zs.getD i default).1)).map str), sepL (((zs.set i (readyW (zs.getD i default).1, (zs.getD i default).2))).map wz)] := by
  refine (Tri.frame (wz_out hi hS) fun S1 h1 _ => ready_spec (zs.getD i default).1 (zs.getD i default).2 w S1 h1 hn).turn ?_
  rintro v _ ⟨_, rfl, rfl⟩
  refine ⟨_, rfl, fun w h => ?_⟩
  have h2 := wz_in (r := [.own 9 1 (v) ((readyO (zs.getD i default).1)).length (((readyO (zs.getD i default).1)).map str)]) hi (readyW (zs.getD i default).1, (zs.getD i default).2) (St.keep (by repeat constructor) h)
  exact St.keep (by repeat constructor) h2
theorem in_all (zs : Zs) (i : Nat) (s : Txt) (w : World) (S : BSet) (hS : (sepL [sepL ((zs).map wz)]).sat S w) (hi : i < zs.length) (hs0 : s.length ≤ 140737488355328) (hn : wSize (zs.getD i default).1 ≤ 2147483648) :
    Tri Try.prog 24 #[ptr (zs.getD i default).2 0, str s] w S fun u A => A = [.own 9 1 (u) ((inO (zs.getD i default).1 s)).length (((inO (zs.getD i default).1 s)).map str), sepL (((zs.set i (inW (zs.getD i default).1 s, (zs.getD i default).2))).map wz)] := by
  refine (Tri.frame (wz_out hi hS) fun S1 h1 _ => in_spec (zs.getD i default).1 (zs.getD i default).2 s w S1 h1 hs0 hn).turn ?_
  rintro v _ ⟨_, rfl, rfl⟩
  refine ⟨_, rfl, fun w h => ?_⟩
  have h2 := wz_in (r := [.own 9 1 (v) ((inO (zs.getD i default).1 s)).length (((inO (zs.getD i default).1 s)).map str)]) hi (inW (zs.getD i default).1 s, (zs.getD i default).2) (St.keep (by repeat constructor) h)
  exact St.keep (by repeat constructor) h2
abbrev Tel := Int × Txt
def telC (t : Tel) : List Value := [i64 t.1, str t.2]
def outH (ob : Nat) (o : List Tel) : HP := .ex fun v : Value => sepL [.blk ob #[v] 28, .own 34 2 (v) (o).length ((o).flatMap telC)]
def telsOf (p : Int) (ts : List Txt) : List Tel := ts.map fun s => (p, s)
theorem St.shutOut {w0 w : World} {S0 : BSet} {A r : List HP} {ob : Nat} {v : Value} {o : List Tel} (t : TakeL [.blk ob [v].toArray 28, .own 34 2 (v) (o).length ((o).flatMap telC)] A r) (hs : St w0 S0 A w) : St w0 S0 (outH ob o :: r) w :=
  St.inEx (f := fun v : Value => sepL [.blk ob #[v] 28, .own 34 2 (v) (o).length ((o).flatMap telC)]) v (St.pack t hs)
theorem telsOf_step (p : Int) (ts : List Txt) (i : Nat) (h : i < ts.length) : (telsOf p (ts.take (i + 1))).flatMap telC = (telsOf p (ts.take i)).flatMap telC ++ [i64 p, str (ts.getD i [])] := by
  have e : ts.take (i + 1) = ts.take i ++ [ts.getD i []] := by
    rw [List.take_add_one, List.getD_eq_getElem?_getD, List.getElem?_eq_getElem h]; rfl
  rw [e]
  unfold telsOf
  rw [List.map_append, List.flatMap_append]
  rfl
theorem telsOf_len (o : List Tel) (p : Int) (ts : List Txt) : (o ++ telsOf p ts).length = o.length + ts.length := by unfold telsOf; rw [List.length_append, List.length_map]
theorem telsOf_len2 (o : List Tel) (p : Int) (ts : List Txt) (i : Nat) (h : i < ts.length) : (o ++ telsOf p (ts.take (i + 1))).length = o.length + (ts.take i).length + 1 := by
  rw [telsOf_len, List.length_take, List.length_take]; omega
theorem add_spec (ob : Nat) (o : List Tel) (p : Int) (v : Value) (ts : List Txt) (w : World) (S : BSet) (hS : (sepL [outH ob o]).sat S w) (hv : Sees w S (.row 1 v ts.length (ts.map str))) (hn : o.length + ts.length ≤ 4294967296) :
    Tri Try.prog 20 #[i64 p, v, ptr ob 0] w S fun u A => u = .tuple #[] ∧ A = [outH ob (o ++ telsOf p ts)] := by
  refine Tri.enter (l := [i64 p, v, ptr ob 0]) Try.func20 rfl Try.ntmps20 rfl [(0, i64 p), (1, v), (2, ptr ob 0)] (subA rfl) hS ?_
  refine WC.exH .head fun vo => ?_
  refine WC.unpack (L := [.blk ob #[vo] 28, .own 34 2 (vo) (o).length ((o).flatMap telC)]) .head rfl ?_
  repeat first
    | (apply WL.q; exact rfl; exact rfl; exact rfl; (first | (apply EvW.move; exact rfl) | (apply EvW.assign; exact rfl) | (apply EvW.load; exact rfl; exact ScalC.eq; (focus ((repeat constructor); done)); exact rfl) | (apply EvW.ldSeen; exact rfl; exact ScalC.eq; assumption; (first | exact rfl | assumption)) | (apply EvW.ldFld; exact rfl; exact ScalC.eq; assumption; exact fun _ => rfl; omega; exact rfl; exact inferInstance) | (apply EvW.lenL; exact rfl; exact UndC.eq) | (apply EvW.cmpT; exact rfl; exact rfl; exact rfl; omega) | (apply EvW.cmpF; exact rfl; exact rfl; exact rfl; omega) | (apply EvW.cmp; exact rfl; exact rfl; exact rfl) | (apply EvW.arN; exact rfl; exact rfl; exact rfl; refine i64_in ?_ ?_ <;> omega) | (apply EvW.ar; exact rfl; exact rfl; exact rfl) | (apply EvW.build; exact PlC.eq; exact ZvC.eq; exact rfl; exact rfl; (focus ((repeat (first | exact Fills.nil | (apply Fills.cons; exact rfl; (first | assumption | exact rfl); exact rfl) | exact SetMany.nil | apply SetMany.cons | apply SetMany.succ)); done))) | (apply EvW.ldStr; exact rfl; exact ScalC.eq; assumption; omega) | (apply EvW.ldStrOwn; exact rfl; exact ScalC.eq; (focus ((repeat constructor); done)); omega) | (apply EvW.lenRow; exact rfl; exact UndC.eq; assumption) | (apply EvW.lenOwn; exact rfl; exact UndC.eq; (focus ((repeat constructor); done))) | (apply EvW.idxRow; exact rfl; exact rfl; exact UndC.eq; exact SzC.eq; assumption; omega; omega) | (apply EvW.idxOwn; exact rfl; exact rfl; exact UndC.eq; exact SzC.eq; (focus ((repeat constructor); done)); omega; omega) | (apply EvW.ldFldOwn; exact rfl; exact ScalC.eq; (focus ((repeat constructor); done)); exact fun _ => rfl; omega; exact rfl; exact inferInstance)))
    | refine WC.seq ?_ | refine WC.region ?_ | refine WL.nil ?_ | refine WE.next ?_ | refine WC.block ?_ | refine WC.skip ?_ | refine WC.exit ?_ | refine WE.pass ?_ | refine WE.hit ?_ | refine WE.miss rfl ?_ | refine WE.out ?_ | refine WC.condT rfl ?_ | refine WC.condF rfl ?_ | refine WC.ret ?_ | refine WE.passRet ?_ | refine WE.outRet ?_ | refine WL.wanted rfl rfl rfl ?_ | (apply WL.store; exact rfl; exact rfl; (first | assumption | exact rfl); exact SzC.eq; (first | assumption | exact rfl); (focus ((repeat constructor); done)))
  refine WC.keep (xs := [.blk ob #[vo] 28, .own 34 2 (vo) ((o ++ telsOf p (ts.take 0))).length (((o ++ telsOf p (ts.take 0))).flatMap telC)]) (by rw [List.take_zero, show telsOf p [] = [] from rfl, List.append_nil]; (focus ((repeat constructor); done))) ?_
  refine WC.loopK (σ := Nat × Value) [0, 2, 7, 8] (fun s => [(9, i64 s.1)]) (fun s => [.blk ob #[s.2] 28, .own 34 2 (s.2) ((o ++ telsOf p (ts.take s.1))).length (((o ++ telsOf p (ts.take s.1))).flatMap telC)]) (fun s => s.1 ≤ ts.length) (fun s => ts.length - s.1) (0, vo) (by (focus ((repeat (first | exact Pick.nil | (apply Pick.cons; exact rfl))); done))) (by (focus ((repeat (first | exact trivial | (refine ⟨rfl, ?_⟩))); done))) (fun _ h => h.keep (by repeat constructor)) (Nat.zero_le _) (fun s hs => ?_)
  obtain ⟨i, vo⟩ := s
  simp only [List.cons_append, List.nil_append] at hs ⊢
  by_cases hlt : (i : Int) < ts.length
  · have hi : i < ts.length := by omega
    have hln : (o ++ telsOf p (ts.take i)).length = o.length + i := by unfold telsOf; simp; omega
    have hst := telsOf_step p ts i hi
    repeat first
      | (apply WL.q; exact rfl; exact rfl; exact rfl; (first | (apply EvW.move; exact rfl) | (apply EvW.assign; exact rfl) | (apply EvW.load; exact rfl; exact ScalC.eq; (focus ((repeat constructor); done)); exact rfl) | (apply EvW.ldSeen; exact rfl; exact ScalC.eq; assumption; (first | exact rfl | assumption)) | (apply EvW.ldFld; exact rfl; exact ScalC.eq; assumption; exact fun _ => rfl; omega; exact rfl; exact inferInstance) | (apply EvW.lenL; exact rfl; exact UndC.eq) | (apply EvW.cmpT; exact rfl; exact rfl; exact rfl; omega) | (apply EvW.cmpF; exact rfl; exact rfl; exact rfl; omega) | (apply EvW.cmp; exact rfl; exact rfl; exact rfl) | (apply EvW.arN; exact rfl; exact rfl; exact rfl; refine i64_in ?_ ?_ <;> omega) | (apply EvW.ar; exact rfl; exact rfl; exact rfl) | (apply EvW.build; exact PlC.eq; exact ZvC.eq; exact rfl; exact rfl; (focus ((repeat (first | exact Fills.nil | (apply Fills.cons; exact rfl; (first | assumption | exact rfl); exact rfl) | exact SetMany.nil | apply SetMany.cons | apply SetMany.succ)); done))) | (apply EvW.ldStr; exact rfl; exact ScalC.eq; assumption; omega) | (apply EvW.ldStrOwn; exact rfl; exact ScalC.eq; (focus ((repeat constructor); done)); omega) | (apply EvW.lenRow; exact rfl; exact UndC.eq; assumption) | (apply EvW.lenOwn; exact rfl; exact UndC.eq; (focus ((repeat constructor); done))) | (apply EvW.idxRow; exact rfl; exact rfl; exact UndC.eq; exact SzC.eq; assumption; omega; omega) | (apply EvW.idxOwn; exact rfl; exact rfl; exact UndC.eq; exact SzC.eq; (focus ((repeat constructor); done)); omega; omega) | (apply EvW.ldFldOwn; exact rfl; exact ScalC.eq; (focus ((repeat constructor); done)); exact fun _ => rfl; omega; exact rfl; exact inferInstance)))
      | refine WC.seq ?_ | refine WC.region ?_ | refine WL.nil ?_ | refine WE.next ?_ | refine WC.block ?_ | refine WC.skip ?_ | refine WC.exit ?_ | refine WE.pass ?_ | refine WE.hit ?_ | refine WE.miss rfl ?_ | refine WE.out ?_ | refine WC.condT rfl ?_ | refine WC.condF rfl ?_ | refine WC.ret ?_ | refine WE.passRet ?_ | refine WE.outRet ?_ | refine WL.wanted rfl rfl rfl ?_ | (apply WL.store; exact rfl; exact rfl; (first | assumption | exact rfl); exact SzC.eq; (first | assumption | exact rfl); (focus ((repeat constructor); done)))
    try refine WL.wanted rfl rfl rfl ?_
    (apply WL.buildSlice; exact rfl; exact UndC.eq; exact SzC.eq; exact ZvC.eq; exact rfl; exact rfl; exact rfl; ((focus ((repeat (first | exact Flat.nil | (apply Flat.one; (first | exact rfl | assumption)) | (apply Flat.cons; exact rfl; exact rfl))); done))); exact rfl; exact rfl; intro k0)
    repeat first
      | (apply WL.q; exact rfl; exact rfl; exact rfl; (first | (apply EvW.move; exact rfl) | (apply EvW.assign; exact rfl) | (apply EvW.load; exact rfl; exact ScalC.eq; (focus ((repeat constructor); done)); exact rfl) | (apply EvW.ldSeen; exact rfl; exact ScalC.eq; assumption; (first | exact rfl | assumption)) | (apply EvW.ldFld; exact rfl; exact ScalC.eq; assumption; exact fun _ => rfl; omega; exact rfl; exact inferInstance) | (apply EvW.lenL; exact rfl; exact UndC.eq) | (apply EvW.cmpT; exact rfl; exact rfl; exact rfl; omega) | (apply EvW.cmpF; exact rfl; exact rfl; exact rfl; omega) | (apply EvW.cmp; exact rfl; exact rfl; exact rfl) | (apply EvW.arN; exact rfl; exact rfl; exact rfl; refine i64_in ?_ ?_ <;> omega) | (apply EvW.ar; exact rfl; exact rfl; exact rfl) | (apply EvW.build; exact PlC.eq; exact ZvC.eq; exact rfl; exact rfl; (focus ((repeat (first | exact Fills.nil | (apply Fills.cons; exact rfl; (first | assumption | exact rfl); exact rfl) | exact SetMany.nil | apply SetMany.cons | apply SetMany.succ)); done))) | (apply EvW.ldStr; exact rfl; exact ScalC.eq; assumption; omega) | (apply EvW.ldStrOwn; exact rfl; exact ScalC.eq; (focus ((repeat constructor); done)); omega) | (apply EvW.lenRow; exact rfl; exact UndC.eq; assumption) | (apply EvW.lenOwn; exact rfl; exact UndC.eq; (focus ((repeat constructor); done))) | (apply EvW.idxRow; exact rfl; exact rfl; exact UndC.eq; exact SzC.eq; assumption; omega; omega) | (apply EvW.idxOwn; exact rfl; exact rfl; exact UndC.eq; exact SzC.eq; (focus ((repeat constructor); done)); omega; omega) | (apply EvW.ldFldOwn; exact rfl; exact ScalC.eq; (focus ((repeat constructor); done)); exact fun _ => rfl; omega; exact rfl; exact inferInstance)))
      | refine WC.seq ?_ | refine WC.region ?_ | refine WL.nil ?_ | refine WE.next ?_ | refine WC.block ?_ | refine WC.skip ?_ | refine WC.exit ?_ | refine WE.pass ?_ | refine WE.hit ?_ | refine WE.miss rfl ?_ | refine WE.out ?_ | refine WC.condT rfl ?_ | refine WC.condF rfl ?_ | refine WC.ret ?_ | refine WE.passRet ?_ | refine WE.outRet ?_ | refine WL.wanted rfl rfl rfl ?_ | (apply WL.store; exact rfl; exact rfl; (first | assumption | exact rfl); exact SzC.eq; (first | assumption | exact rfl); (focus ((repeat constructor); done)))
    try refine WL.wanted rfl rfl rfl ?_
    (apply WL.append; exact rfl; exact rfl; exact rfl; exact UndC.eq; exact SzC.eq; exact ByC.eq; exact ZvC.eq; exact rfl; (first | exact notInt_sl UndC.eq | exact notInt_st UndC.eq); exact rfl; (focus ((repeat constructor); done)))
    · exact adds_blk .head rfl rfl
    · (rw [hln]; omega)
    intro v2
    refine WL.ownEq (cs' := (o ++ telsOf p (ts.take (i + 1))).flatMap telC) (len' := (o ++ telsOf p (ts.take (i + 1))).length) .head (by rw [telsOf_len, telsOf_len2 _ _ _ _ hi]) (by rw [List.flatMap_append, List.flatMap_append, hst, List.append_assoc]; rfl) ?_
    (first | refine WL.slOwn (v := v2) (by repeat constructor) ?_ | refine WC.slOwn (v := v2) (by repeat constructor) ?_)
    intro hc_v2 ho_v2
    repeat first
      | (apply WL.q; exact rfl; exact rfl; exact rfl; (first | (apply EvW.move; exact rfl) | (apply EvW.assign; exact rfl) | (apply EvW.load; exact rfl; exact ScalC.eq; (focus ((repeat constructor); done)); exact rfl) | (apply EvW.ldSeen; exact rfl; exact ScalC.eq; assumption; (first | exact rfl | assumption)) | (apply EvW.ldFld; exact rfl; exact ScalC.eq; assumption; exact fun _ => rfl; omega; exact rfl; exact inferInstance) | (apply EvW.lenL; exact rfl; exact UndC.eq) | (apply EvW.cmpT; exact rfl; exact rfl; exact rfl; omega) | (apply EvW.cmpF; exact rfl; exact rfl; exact rfl; omega) | (apply EvW.cmp; exact rfl; exact rfl; exact rfl) | (apply EvW.arN; exact rfl; exact rfl; exact rfl; refine i64_in ?_ ?_ <;> omega) | (apply EvW.ar; exact rfl; exact rfl; exact rfl) | (apply EvW.build; exact PlC.eq; exact ZvC.eq; exact rfl; exact rfl; (focus ((repeat (first | exact Fills.nil | (apply Fills.cons; exact rfl; (first | assumption | exact rfl); exact rfl) | exact SetMany.nil | apply SetMany.cons | apply SetMany.succ)); done))) | (apply EvW.ldStr; exact rfl; exact ScalC.eq; assumption; omega) | (apply EvW.ldStrOwn; exact rfl; exact ScalC.eq; (focus ((repeat constructor); done)); omega) | (apply EvW.lenRow; exact rfl; exact UndC.eq; assumption) | (apply EvW.lenOwn; exact rfl; exact UndC.eq; (focus ((repeat constructor); done))) | (apply EvW.idxRow; exact rfl; exact rfl; exact UndC.eq; exact SzC.eq; assumption; omega; omega) | (apply EvW.idxOwn; exact rfl; exact rfl; exact UndC.eq; exact SzC.eq; (focus ((repeat constructor); done)); omega; omega) | (apply EvW.ldFldOwn; exact rfl; exact ScalC.eq; (focus ((repeat constructor); done)); exact fun _ => rfl; omega; exact rfl; exact inferInstance)))
      | refine WC.seq ?_ | refine WC.region ?_ | refine WL.nil ?_ | refine WE.next ?_ | refine WC.block ?_ | refine WC.skip ?_ | refine WC.exit ?_ | refine WE.pass ?_ | refine WE.hit ?_ | refine WE.miss rfl ?_ | refine WE.out ?_ | refine WC.condT rfl ?_ | refine WC.condF rfl ?_ | refine WC.ret ?_ | refine WE.passRet ?_ | refine WE.outRet ?_ | refine WL.wanted rfl rfl rfl ?_ | (apply WL.store; exact rfl; exact rfl; (first | assumption | exact rfl); exact SzC.eq; (first | assumption | exact rfl); (focus ((repeat constructor); done)))
    exact WE.again (s := (i, vo)) ((i + 1, v2)) (by simp only []; omega) (by (focus ((repeat (first | exact trivial | (refine ⟨rfl, ?_⟩))); done))) (fun _ h => (by (try simp only []); exact h.keep (by repeat constructor))) (by (try simp only []); omega)
  · obtain rfl : i = ts.length := by omega
    rw [List.take_length]
    repeat first
      | (apply WL.q; exact rfl; exact rfl; exact rfl; (first | (apply EvW.move; exact rfl) | (apply EvW.assign; exact rfl) | (apply EvW.load; exact rfl; exact ScalC.eq; (focus ((repeat constructor); done)); exact rfl) | (apply EvW.ldSeen; exact rfl; exact ScalC.eq; assumption; (first | exact rfl | assumption)) | (apply EvW.ldFld; exact rfl; exact ScalC.eq; assumption; exact fun _ => rfl; omega; exact rfl; exact inferInstance) | (apply EvW.lenL; exact rfl; exact UndC.eq) | (apply EvW.cmpT; exact rfl; exact rfl; exact rfl; omega) | (apply EvW.cmpF; exact rfl; exact rfl; exact rfl; omega) | (apply EvW.cmp; exact rfl; exact rfl; exact rfl) | (apply EvW.arN; exact rfl; exact rfl; exact rfl; refine i64_in ?_ ?_ <;> omega) | (apply EvW.ar; exact rfl; exact rfl; exact rfl) | (apply EvW.build; exact PlC.eq; exact ZvC.eq; exact rfl; exact rfl; (focus ((repeat (first | exact Fills.nil | (apply Fills.cons; exact rfl; (first | assumption | exact rfl); exact rfl) | exact SetMany.nil | apply SetMany.cons | apply SetMany.succ)); done))) | (apply EvW.ldStr; exact rfl; exact ScalC.eq; assumption; omega) | (apply EvW.ldStrOwn; exact rfl; exact ScalC.eq; (focus ((repeat constructor); done)); omega) | (apply EvW.lenRow; exact rfl; exact UndC.eq; assumption) | (apply EvW.lenOwn; exact rfl; exact UndC.eq; (focus ((repeat constructor); done))) | (apply EvW.idxRow; exact rfl; exact rfl; exact UndC.eq; exact SzC.eq; assumption; omega; omega) | (apply EvW.idxOwn; exact rfl; exact rfl; exact UndC.eq; exact SzC.eq; (focus ((repeat constructor); done)); omega; omega) | (apply EvW.ldFldOwn; exact rfl; exact ScalC.eq; (focus ((repeat constructor); done)); exact fun _ => rfl; omega; exact rfl; exact inferInstance)))
      | refine WC.seq ?_ | refine WC.region ?_ | refine WL.nil ?_ | refine WE.next ?_ | refine WC.block ?_ | refine WC.skip ?_ | refine WC.exit ?_ | refine WE.pass ?_ | refine WE.hit ?_ | refine WE.miss rfl ?_ | refine WE.out ?_ | refine WC.condT rfl ?_ | refine WC.condF rfl ?_ | refine WC.ret ?_ | refine WE.passRet ?_ | refine WE.outRet ?_ | refine WL.wanted rfl rfl rfl ?_ | (apply WL.store; exact rfl; exact rfl; (first | assumption | exact rfl); exact SzC.eq; (first | assumption | exact rfl); (focus ((repeat constructor); done)))
    refine WE.conv (fun _ hs => St.shutOut (v := vo) (o := o ++ telsOf p ts) (by repeat constructor) hs) ?_
    refine WE.keep (xs := [outH ob (o ++ telsOf p ts)]) (by repeat constructor) ?_
    first | refine WE.end0 rfl ?_ | refine WE.ret0 rfl ?_
    exact ⟨rfl, rfl⟩
end Go.Proofs.Ytoaajdmacngnjaa
namespace Go.Proofs.Ytoaajdmacngnjaa
open Go.RowKit Go.BK
def getW (xs : List Wr) (p : Int) : Wr := xs.getD (ixW xs p) default
theorem ixW_mem : ∀ (xs : List Wr) (p : Int), p ∈ xs.map (·.p) → ixW xs p < xs.length ∧ (getW xs p).p = p
  | [], p, h => by simp at h
  | q :: r, p, h => by
    unfold getW ixW
    by_cases e : p = q.p
    · rw [if_pos e]; exact ⟨by simp, e.symm⟩
    · rw [if_neg e]
      have h2 : p ∈ r.map (·.p) := by
        rcases List.mem_cons.1 h with h | h
        · exact absurd h e
        · exact h
      obtain ⟨h3, h4⟩ := ixW_mem r p h2
      exact ⟨by simp only [List.length_cons]; omega, by rw [List.getD_cons_succ]; exact h4⟩
/-- Those of some keys are ready. -/
def zsR (zs : Zs) (K : List Int) : Zs := zs.map fun z => if z.1.p ∈ K then (readyW z.1, z.2) else z
theorem zsR_len (zs : Zs) (K : List Int) : (zsR zs K).length = zs.length := List.length_map ..
theorem zsR_kv (zs : Zs) (K : List Int) : (zsR zs K).map kv = zs.map kv := by
  unfold zsR
  rw [List.map_map]
  refine List.map_congr_left fun z _ => ?_
  show kv (if z.1.p ∈ K then (readyW z.1, z.2) else z) = kv z
  split <;> rfl
theorem zsR_nil (zs : Zs) : zsR zs [] = zs := by
  unfold zsR
  simp
theorem zsR_at (zs : Zs) (K : List Int) (j : Nat) (h : j < zs.length) : (zsR zs K).getD j default = if (zs.getD j default).1.p ∈ K then (readyW (zs.getD j default).1, (zs.getD j default).2) else zs.getD j default := by
  unfold zsR
  rw [map_getD _ zs j h]
theorem zsR_all (zs : Zs) (K : List Int) (h : ∀ z ∈ zs, z.1.p ∈ K) : (zsR zs K).map (·.1) = (zs.map (·.1)).map readyW := by
  unfold zsR
  rw [List.map_map, List.map_map]
  refine List.map_congr_left fun z hz => ?_
  show (if z.1.p ∈ K then (readyW z.1, z.2) else z).1 = readyW z.1
  rw [if_pos (h z hz)]
theorem zsR_get (zs : Zs) (K : List Int) (t : Nat) (h : t < (zsR zs K).length) (h' : t < zs.length) : (zsR zs K)[t] = if zs[t].1.p ∈ K then (readyW zs[t].1, zs[t].2) else zs[t] := by
  simp only [zsR, List.getElem_map]
theorem zsR_set (zs : Zs) (K : List Int) (p : Int) (hd : ((zs.map (·.1)).map (·.p)).Nodup) (hp : p ∈ (zs.map (·.1)).map (·.p)) :
    (zsR zs K).set (ixW (zs.map (·.1)) p) (readyW (zs.getD (ixW (zs.map (·.1)) p) default).1, (zs.getD (ixW (zs.map (·.1)) p) default).2) = zsR zs (K ++ [p]) := by
  obtain ⟨h1, h2⟩ := ixW_mem _ p hp
  have h1' : ixW (zs.map (·.1)) p < zs.length := by rw [List.length_map] at h1; exact h1
  have h3 : (zs.getD (ixW (zs.map (·.1)) p) default).1.p = p := by
    unfold getW at h2
    rw [map_getD (·.1) zs _ h1'] at h2; exact h2
  apply List.ext_getElem (by simp [zsR])
  intro t ht1 ht2
  have ht : t < zs.length := by rw [zsR_len] at ht2; exact ht2
  rw [List.getElem_set]
  by_cases e : ixW (zs.map (·.1)) p = t
  · rw [if_pos e, zsR_get _ _ _ _ ht]
    have e2 : zs.getD (ixW (zs.map (·.1)) p) default = zs[t] := by rw [e, List.getD_eq_getElem?_getD, List.getElem?_eq_getElem ht]; rfl
    rw [e2] at h3 ⊢
    rw [if_pos (by rw [h3]; simp)]
  · rw [if_neg e, zsR_get _ _ _ _ ht, zsR_get _ _ _ _ ht]
    have hne : zs[t].1.p ≠ p := by
      intro h
      apply e
      have := ixW_at (zs.map (·.1)) t hd (by rw [List.length_map]; exact ht)
      rw [map_getD (·.1) zs t ht, List.getD_eq_getElem?_getD, List.getElem?_eq_getElem ht] at this
      rw [← h]; exact this
    by_cases m : zs[t].1.p ∈ K
    · rw [if_pos m, if_pos (by simp [m])]
    · rw [if_neg m, if_neg (by simp [m, hne])]
def outR (xs : List Wr) (K : List Int) : List Tel := K.flatMap fun p => telsOf p (readyO (getW xs p))
def stepF (s : List Wr × List Tel) (t : Tel) : List Wr × List Tel :=
  ((ofF s.1 t.1).set (ixW s.1 t.1) (inW ((ofF s.1 t.1).getD (ixW s.1 t.1) default) t.2), s.2 ++ telsOf t.1 (inO ((ofF s.1 t.1).getD (ixW s.1 t.1) default) t.2))
def passF (xs : List Wr) (l : List Tel) : List Wr × List Tel := l.foldl stepF (xs.map readyW, outR xs (sortI (xs.map (·.p))))
theorem readyO_le (q : Wr) : (readyO q).length ≤ wSize q := by
  unfold readyO wSize
  split
  · omega
  · rw [List.length_append, List.length_reverse]; omega
theorem readyW_le (q : Wr) : wSize (readyW q) ≤ wSize q := by
  unfold readyW wSize
  dsimp only
  split <;> simp
theorem inO_le (q : Wr) (s : Txt) : (inO q s).length ≤ 1 := by
  unfold inO
  split
  · simp
  · split <;> simp
theorem inW_le (q : Wr) (s : Txt) : wSize (inW q s) ≤ wSize q + 1 := by
  unfold inW wSize
  split
  · simp; omega
  · split
    · simp; omega
    · omega
theorem sum_at (xs : List Wr) (i : Nat) : wSize (xs.getD i default) ≤ underF xs := by
  unfold underF
  induction xs generalizing i with
  | nil => exact Nat.zero_le _
  | cons q r ih =>
    rw [List.map_cons, List.sum_cons]
    cases i with
    | zero => show wSize q ≤ _; omega
    | succ i => rw [List.getD_cons_succ]; have := ih i; omega
theorem under_ready (xs : List Wr) : underF (xs.map readyW) ≤ underF xs := by
  unfold underF
  induction xs with
  | nil => exact Nat.le_refl _
  | cons q r ih =>
    simp only [List.map_cons, List.sum_cons]
    have := readyW_le q
    omega
theorem under_set (xs : List Wr) (i : Nat) (q : Wr) (n : Nat) (h : i < xs.length) (hq : wSize q ≤ wSize (xs.getD i default) + n) : underF (xs.set i q) ≤ underF xs + n := by
  unfold underF
  induction xs generalizing i with
  | nil => simp at h
  | cons a r ih =>
    cases i with
    | zero =>
      simp only [List.set_cons_zero, List.map_cons, List.sum_cons]
      have hq : wSize q ≤ wSize a + n := hq
      omega
    | succ i =>
      simp only [List.set_cons_succ, List.map_cons, List.sum_cons]
      rw [List.getD_cons_succ] at hq
      have := ih i (by simpa using h) hq
      omega
theorem under_of (xs : List Wr) (p : Int) : underF (ofF xs p) = underF xs := by
  unfold ofF
  split
  · rfl
  · unfold underF; rw [List.map_append, List.sum_append]; rfl
theorem ixW_ofF (xs : List Wr) (p : Int) : ixW xs p < (ofF xs p).length := by
  unfold ofF
  have h1 := ixW_le xs p
  split
  · assumption
  · rw [List.length_append, List.length_singleton]; omega
theorem step_le (s : List Wr × List Tel) (t : Tel) : underF (stepF s t).1 ≤ underF s.1 + 1 ∧ (stepF s t).2.length ≤ s.2.length + 1 := by
  unfold stepF
  refine ⟨?_, ?_⟩
  · have := under_set (ofF s.1 t.1) (ixW s.1 t.1) _ 1 (ixW_ofF s.1 t.1) (inW_le ((ofF s.1 t.1).getD (ixW s.1 t.1) default) t.2)
    rw [under_of] at this; exact this
  · rw [telsOf_len]
    have := inO_le ((ofF s.1 t.1).getD (ixW s.1 t.1) default) t.2
    omega
theorem outR_sum (xs : List Wr) (K : List Int) : (outR xs K).length ≤ (K.map fun p => wSize (getW xs p)).sum := by
  unfold outR
  induction K with
  | nil => exact Nat.zero_le _
  | cons p r ih =>
    rw [List.flatMap_cons, List.length_append, List.map_cons, List.sum_cons]
    have h1 := readyO_le (getW xs p)
    have h2 : (telsOf p (readyO (getW xs p))).length = (readyO (getW xs p)).length := List.length_map ..
    omega
theorem keys_sum (xs : List Wr) (hd : (xs.map (·.p)).Nodup) {K : List Int} (hp : K.Perm (xs.map (·.p))) : (K.map fun p => wSize (getW xs p)).sum = underF xs := by
  have h1 := (hp.map fun p => wSize (getW xs p)).sum_nat
  rw [h1, List.map_map]
  unfold underF
  congr 1
  apply List.ext_getElem (by simp)
  intro i h2 h3
  have hi : i < xs.length := by simpa using h3
  rw [List.getElem_map, List.getElem_map]
  have e : xs.getD i default = xs[i] := by rw [List.getD_eq_getElem?_getD, List.getElem?_eq_getElem hi]; rfl
  show wSize (xs.getD (ixW xs xs[i].p) default) = wSize xs[i]
  rw [← e, ixW_at xs i hd hi]
theorem take_sum (f : Int → Nat) (K : List Int) (i : Nat) : ((K.take i).map f).sum ≤ (K.map f).sum := by
  conv => rhs; rw [← List.take_append_drop i K, List.map_append, List.sum_append]
  omega
theorem pass_bd (xs : List Wr) (l : List Tel) (hd : (xs.map (·.p)).Nodup) : underF (passF xs l).1 ≤ underF xs + l.length ∧ (passF xs l).2.length ≤ underF xs + l.length := by
  have h0 : underF (xs.map readyW) ≤ underF xs ∧ (outR xs (sortI (xs.map (·.p)))).length ≤ underF xs := by
    refine ⟨under_ready xs, ?_⟩
    have := outR_sum xs (sortI (xs.map (·.p)))
    rw [keys_sum xs hd (sortI_perm _)] at this; exact this
  unfold passF
  have key : ∀ (l : List Tel) (s : List Wr × List Tel) (n : Nat), underF s.1 ≤ n ∧ s.2.length ≤ n → underF (l.foldl stepF s).1 ≤ n + l.length ∧ (l.foldl stepF s).2.length ≤ n + l.length := by
    intro l
    induction l with
    | nil => intro s n h; exact h
    | cons t l ih =>
      intro s n h
      have h1 := step_le s t
      have h2 := ih (stepF s t) (n + 1) ⟨by omega, by omega⟩
      rw [List.foldl_cons, List.length_cons]
      omega
  exact key l _ _ h0
theorem pass_take (xs : List Wr) (l : List Tel) (i : Nat) (h : i < l.length) : passF xs (l.take (i + 1)) = stepF (passF xs (l.take i)) (l.getD i default) := by
  have e : l.take (i + 1) = l.take i ++ [l.getD i default] := by
    rw [List.take_add_one, List.getD_eq_getElem?_getD, List.getElem?_eq_getElem h]; rfl
  rw [e]
  unfold passF
  rw [List.foldl_append]; rfl
end Go.Proofs.Ytoaajdmacngnjaa
