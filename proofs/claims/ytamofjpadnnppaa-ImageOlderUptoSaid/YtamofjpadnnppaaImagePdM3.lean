/- Own lemmas: the texts PackN, TeleI, TeleJ, TeleK, TeleM, Crc, SealA, SealB, SealC, SealD, SealE, SealF, LinkA, Sq, LinkB, LinkC, LibT, LibV, LibW, LibY, ImageA, ImageB. -/
import Derived.MapKept
import Derived.Test.YtamofjpadnnppaaRows
import Derived.Test.YtamofjpadnnppaaImagePdM2
namespace Go.Proofs.Ytamofjpadnnppaa
open Go.RowKit Go.BK
theorem num_wrong (k : Nat) (m : PW) (x : Int) (h : x < 0 ∨ 256 ^ k ≤ x) : m.num k x = m.note 32 := by
  unfold PW.num
  rw [if_pos, put_note _ _ _ (by decide)]
  rcases h with h | h
  · exact .inl h
  · by_cases h0 : x < 0
    · exact .inl h0
    · right
      rw [fdiv_two, Int.pow_mul]
      intro h2
      have := Int.ediv_mul_add_emod x (2 ^ 8 : Int) 
      have h3 : (0 : Int) < (2 ^ 8) ^ k := Int.pow_pos (by decide)
      have h4 : 1 ≤ x / (2 ^ 8) ^ k := (Int.le_ediv_iff_mul_le h3).2 (by rw [Int.one_mul]; exact h)
      omega
def part (k : Nat) (n : Int) (j : Nat) : List UInt8 := List.replicate (k - j) 0 ++ (be k n).drop (k - j)
theorem part_length (k : Nat) (n : Int) (j : Nat) (h : j ≤ k) : (part k n j).length = k := by simp [part, be_length]; try omega
theorem be_at (k : Nat) (n : Int) (i : Nat) (h : i < (be k n).length) : (be k n)[i] = bytOf (n / 256 ^ (k - 1 - i)) := by
  simp only [be, List.getElem_map, List.getElem_range, fdiv_two]
  rw [Int.pow_mul]; rfl
theorem part_set (k : Nat) (n : Int) (j : Nat) (h : j < k) : (part k n j).set (k - 1 - j) (bytOf (n / 256 ^ j)) = part k n (j + 1) := by
  apply List.ext_getElem (by rw [List.length_set, part_length _ _ _ (by omega), part_length _ _ _ (by omega)])
  intro i h1 h2
  rw [part_length _ _ _ (by omega)] at h2
  rw [List.getElem_set]
  simp only [part, List.getElem_append, List.length_replicate, List.getElem_replicate, List.getElem_drop]
  by_cases e : k - 1 - j = i
  · subst e
    rw [if_pos rfl, dif_neg (by omega), be_at]
    congr 2
    congr 1
    omega
  · rw [if_neg e]
    by_cases hi : i < k - j
    · rw [dif_pos hi, dif_pos (by omega)]
    · rw [dif_neg hi, dif_neg (by omega)]
      congr 1
      omega
theorem part_zero (k : Nat) (n : Int) : part k n 0 = List.replicate k 0 := by simp [part, be_length]
theorem part_all (k : Nat) (n : Int) : part k n k = be k n := by simp [part]
theorem pow256 (k : Nat) (h : k ≤ 4) : (256 : Int) ^ k ≤ 4294967296 ∧ 1 ≤ (256 : Int) ^ k := by
  match k, h with
  | 0, _ => decide
  | 1, _ => decide
  | 2, _ => decide
  | 3, _ => decide
  | 4, _ => decide
theorem byt_mod (n : Int) : byt (bytOf n) = .int .u8 (n % 256) := by simp only [byt, bytOf_nat]
theorem rnumw_spec (b : Nat) (v : Value) (m : PW) (x : Int) (k : Nat) (hk1 : 1 ≤ k) (hk : k ≤ 4) (w : World) (S : BSet) (hS : (sepL [.own 5 1 (v) (m).out.length ((m).out.map byt), .blk b #[v, i64 (m).lim, i64 (m).e] 130]).sat S w) (hr : m.fits k) (hx : x ≤ 9223372036854775807) :
    Tri Try.prog 43 #[ptr b 0, i64 x, i64 k] w S fun u A => u = .tuple #[] ∧ ∃ v', A = [.own 5 1 (v') (m.num k x).out.length ((m.num k x).out.map byt), .blk b #[v', i64 (m.num k x).lim, i64 (m.num k x).e] 130] := by
  have hp := pow256 k hk
  refine Tri.enter (l := [ptr b 0, i64 x, i64 k]) Try.func43 rfl Try.ntmps43 rfl [(0, ptr b 0), (1, i64 x), (2, i64 k)] (subA rfl) hS ?_
  repeat first
    | (apply WL.q; exact rfl; exact rfl; exact rfl; (first | (apply EvW.assign; exact rfl)))
    | refine WC.seq ?_ | refine WC.region ?_ | refine WL.nil ?_ | refine WE.next ?_ | refine WC.block ?_
  refine WC.loop (σ := Nat × Int) (fun s => [(7, i64 s.1), (6, i64 s.2), (0, ptr b 0), (1, i64 x), (2, i64 k)]) (fun _ => [.own 5 1 (v) (m).out.length ((m).out.map byt), .blk b #[v, i64 (m).lim, i64 (m).e] 130]) (fun s => s.1 ≤ k ∧ s.2 = 256 ^ s.1) (fun s => k - s.1) (0, 1) ⟨rfl, rfl, rfl, rfl, rfl, trivial⟩ (fun _ h => h) ⟨Nat.zero_le _, rfl⟩ (fun s hs => ?_)
  obtain ⟨i, M⟩ := s
  simp only [] at hs ⊢
  obtain ⟨hi, hM⟩ := hs
  by_cases hlt : (i : Int) < k
  · have hpi := pow256 i (by omega)
    rw [← hM] at hpi
    repeat first
      | (apply WL.q; exact rfl; exact rfl; exact rfl; (first | (apply EvW.move; exact rfl) | (apply EvW.assign; exact rfl) | (apply EvW.cmpT; exact rfl; exact rfl; exact rfl; omega) | (apply EvW.arN; exact rfl; exact rfl; exact rfl; (first | (refine i64_in ?_ ?_ <;> omega) | (constructor <;> simp only [IntKind.min, IntKind.max, IntKind.signed, IntKind.bits, ↓reduceIte, Bool.false_eq_true] <;> omega)))))
      | refine WC.seq ?_ | refine WC.region ?_ | refine WL.nil ?_ | refine WE.next ?_ | refine WC.block ?_ | refine WC.skip ?_ | refine WE.out ?_ | refine WC.condT rfl ?_
    exact WE.again (s := (i, M)) (i + 1, M * 256) ⟨by simp only []; omega, by simp only []; rw [hM, Int.pow_succ]⟩ ⟨rfl, rfl, rfl, rfl, rfl, trivial⟩ (fun _ h => h) (by simp only []; omega)
  · obtain rfl : i = k := by omega
    rw [← hM] at hp
    by_cases hbad : x < 0 ∨ M ≤ x
    · rw [num_wrong i m x (by rw [← hM]; exact hbad)]
      by_cases hx0 : x < 0
      repeat first
        | (apply WL.q; exact rfl; exact rfl; exact rfl; (first | (apply EvW.move; exact rfl) | (apply EvW.cmpT; exact rfl; exact rfl; exact rfl; omega) | (apply EvW.cmpF; exact rfl; exact rfl; exact rfl; omega) | (apply EvW.pickT; exact rfl; exact rfl)))
        | refine WC.seq ?_ | refine WC.region ?_ | refine WL.nil ?_ | refine WE.next ?_ | refine WC.exit ?_ | refine WE.pass ?_ | refine WE.hit ?_ | refine WC.condT rfl ?_ | refine WC.condF rfl ?_ | refine WL.unwanted rfl rfl rfl rfl ?_
      rotate_left
      have hx1 : M ≤ x := hbad.resolve_left hx0
      repeat first
        | (apply WL.q; exact rfl; exact rfl; exact rfl; (first | (apply EvW.move; exact rfl) | (apply EvW.cmpT; exact rfl; exact rfl; exact rfl; omega) | (apply EvW.cmpF; exact rfl; exact rfl; exact rfl; omega) | (apply EvW.pickF; exact rfl; exact rfl)))
        | refine WC.seq ?_ | refine WC.region ?_ | refine WL.nil ?_ | refine WE.next ?_ | refine WC.exit ?_ | refine WE.pass ?_ | refine WE.hit ?_ | refine WC.condT rfl ?_ | refine WC.condF rfl ?_ | refine WL.wanted rfl rfl rfl ?_
      rotate_left
      all_goals
        try refine WL.wanted rfl rfl rfl ?_
        apply WL.callT
        · exact rfl
        · exact rfl
        · exact fun w1 S1 hS1 hs1 ho1 => rput_spec b v (.slice none 0 0) m [] false w1 S1 hS1 Sees.nilRow (hr.le (by simp))
        · exact fun w => Try.call65 _ w
        · (focus ((repeat constructor); done))
        rintro _ _ ⟨rfl, v2, rfl⟩
        first | refine WL.app4 ?_ | refine WL.app3 ?_ | refine WL.app2 ?_ | refine WL.app1 ?_ | refine WL.app0 ?_ | skip
        rw [rput_false]
        repeat first
          | refine WL.nil ?_ | refine WE.next ?_ | refine WC.ret ?_ | refine WE.passRet ?_
        refine WE.keep (xs := [.own 5 1 (v2) (m.note 32).out.length ((m.note 32).out.map byt), .blk b #[v2, i64 (m.note 32).lim, i64 (m.note 32).e] 130]) (by repeat constructor) ?_
        first | refine WE.end0 rfl ?_ | refine WE.ret0 rfl ?_
        exact ⟨rfl, v2, rfl⟩
    · have hx0 : 0 ≤ x := by omega
      have hx1 : x < M := by omega
      rw [num_right i m x hx0 (by rw [← hM]; exact hx1)]
      repeat first
        | (apply WL.q; exact rfl; exact rfl; exact rfl; (first | (apply EvW.move; exact rfl) | (apply EvW.cmpF; exact rfl; exact rfl; exact rfl; omega) | (apply EvW.pickF; exact rfl; exact rfl)))
        | refine WC.seq ?_ | refine WC.region ?_ | refine WL.nil ?_ | refine WE.next ?_ | refine WC.skip ?_ | refine WC.exit ?_ | refine WE.pass ?_ | refine WE.hit ?_ | refine WC.condF rfl ?_ | refine WL.wanted rfl rfl rfl ?_
      try refine WL.wanted rfl rfl rfl ?_
      (apply WL.make1; exact rfl; exact rfl; exact rfl; exact UndC.eq; exact SzC.eq; exact ByC.eq; exact ZvC.eq; exact rfl; omega; omega)
      · (simp only [Int.toNat_natCast]; omega)
      intro v8
      rw [show List.replicate ((i : Nat) : Int).toNat (Value.int .u8 0) = (part i x 0).map byt by rw [part_zero, List.map_replicate]; rfl, show ((i : Nat) : Int).toNat = i from rfl]
      repeat first
        | (apply WL.q; exact rfl; exact rfl; exact rfl; (first | (apply EvW.move; exact rfl) | (apply EvW.assign; exact rfl) | (apply EvW.arN; exact rfl; exact rfl; exact rfl; (first | (refine i64_in ?_ ?_ <;> omega) | (constructor <;> simp only [IntKind.min, IntKind.max, IntKind.signed, IntKind.bits, ↓reduceIte, Bool.false_eq_true] <;> omega)))))
        | refine WC.seq ?_ | refine WC.region ?_ | refine WL.nil ?_ | refine WE.next ?_ | refine WC.block ?_
      refine WC.loop (σ := Nat × Int × Int) (fun s => [(9, i64 s.2.1), (8, v8), (1, i64 s.2.2), (0, ptr b 0), (2, i64 i)]) (fun s => [.own 5 1 v8 i ((part i x s.1).map byt), .own 5 1 (v) (m).out.length ((m).out.map byt), .blk b #[v, i64 (m).lim, i64 (m).e] 130]) (fun s => s.1 ≤ i ∧ s.2.1 = i - 1 - s.1 ∧ s.2.2 = x / 256 ^ s.1 ∧ 0 ≤ s.2.2 ∧ s.2.2 ≤ 9223372036854775807) (fun s => i - s.1) (0, i - 1, x) ⟨rfl, rfl, rfl, rfl, rfl, trivial⟩ (fun _ h => h)
        ⟨Nat.zero_le _, by simp, by simp, hx0, hx⟩ (fun s hs => ?_)
      obtain ⟨j, t, y⟩ := s
      simp only [] at hs ⊢
      obtain ⟨hj, ht, hy, hy0, hy1⟩ := hs
      by_cases hlt2 : 0 ≤ t
      · have hpl := part_length i x j hj
        repeat first
          | (apply WL.q; exact rfl; exact rfl; exact rfl; (first | (apply EvW.move; exact rfl) | (apply EvW.cmpT; exact rfl; exact rfl; exact rfl; omega) | (apply EvW.convN; exact rfl; exact UndC.eq; exact UndC.eq; (first | (refine i64_in ?_ ?_ <;> omega) | (constructor <;> simp only [IntKind.min, IntKind.max, IntKind.signed, IntKind.bits, ↓reduceIte, Bool.false_eq_true] <;> omega))) | (apply EvW.idxOwn; exact rfl; exact rfl; exact UndC.eq; exact SzC.eq; (focus ((repeat constructor); done)); omega; omega) | (apply EvW.remP; exact rfl; exact rfl; omega; omega)))
          | refine WC.seq ?_ | refine WC.region ?_ | refine WL.nil ?_ | refine WE.next ?_ | refine WC.block ?_ | refine WC.skip ?_ | refine WC.condT rfl ?_
        have htn : t.toNat * 1 + 0 = i - 1 - j := by omega
        have hset : ((part i x j).map byt).set (i - 1 - j) (.int .u8 (y % 256)) = (part i x (j + 1)).map byt := by
          rw [← byt_mod, ← List.map_set, hy, part_set i x j (by omega)]
        have hdiv : y / 256 = x / 256 ^ (j + 1) := by
          rw [hy, Int.pow_succ, Int.ediv_ediv_of_nonneg (by have := pow256 j (by omega); omega)]
        have hy2 : 0 ≤ y / 256 ∧ y / 256 ≤ 9223372036854775807 := by omega
        (apply WL.stOwn; exact rfl; exact rfl; exact rfl; exact SzC.eq; exact rfl; exact rfl; (focus ((repeat constructor); done)))
        · rw [List.length_map, hpl, List.length_singleton]; omega
        · rw [over_one (by rw [List.length_map, hpl]; omega), htn, hset]; exact .head
        repeat first
          | (apply WL.q; exact rfl; exact rfl; exact rfl; (first | (apply EvW.move; exact rfl) | (apply EvW.assign; exact rfl) | (apply EvW.arN; exact rfl; exact rfl; exact rfl; (first | (refine i64_in ?_ ?_ <;> omega) | (constructor <;> simp only [IntKind.min, IntKind.max, IntKind.signed, IntKind.bits, ↓reduceIte, Bool.false_eq_true] <;> omega))) | (apply EvW.quoP; exact rfl; exact rfl; omega; omega; (first | omega | exact Int.le_trans (by omega) (of_decide_eq_true rfl : (9223372036854775807 : Int) ≤ _) | (simp only [IntKind.max, IntKind.signed, IntKind.bits, ↓reduceIte, Bool.false_eq_true]; omega)))))
          | refine WC.region ?_ | refine WL.nil ?_ | refine WE.next ?_ | refine WE.out ?_
        exact WE.again (s := (j, t, y)) (j + 1, t - 1, y / 256) ⟨by simp only []; omega, by simp only []; omega, hdiv, hy2.1, hy2.2⟩ ⟨rfl, rfl, rfl, rfl, rfl, trivial⟩ (fun _ h => h) (by simp only []; omega)

      · obtain rfl : j = i := by omega
        repeat first
          | (apply WL.q; exact rfl; exact rfl; exact rfl; (first | (apply EvW.move; exact rfl) | (apply EvW.cmpF; exact rfl; exact rfl; exact rfl; omega)))
          | refine WC.seq ?_ | refine WC.region ?_ | refine WL.nil ?_ | refine WE.next ?_ | refine WC.exit ?_ | refine WE.pass ?_ | refine WE.hit ?_ | refine WC.condF rfl ?_
        refine WL.ownEq (cs' := (be j x).map byt) (len' := (be j x).length) .head (be_length j x).symm (by rw [part_all]) ?_
        try refine WL.wanted rfl rfl rfl ?_
        apply WL.callA ([.own 5 1 (v) (m).out.length ((m).out.map byt), .blk b #[v, i64 (m).lim, i64 (m).e] 130])
        · exact rfl
        · exact rfl
        · exact fun w => Try.call65 _ w
        · (focus ((repeat constructor); done))
        · exact fun w1 S1 hS1 hs1 ho1 => rput_spec b v v8 m (be j x) true w1 S1 hS1 ((ho1 _ _ .head).own) (by rw [be_length]; exact hr)
        rintro _ _ ⟨rfl, v2, rfl⟩
        first | refine WL.app4 ?_ | refine WL.app3 ?_ | refine WL.app2 ?_ | refine WL.app1 ?_ | refine WL.app0 ?_ | skip
        rw [rput_true]
        repeat first
          | refine WL.nil ?_
        refine WE.keep (xs := [.own 5 1 (v2) (m.put (be j x)).out.length ((m.put (be j x)).out.map byt), .blk b #[v2, i64 (m.put (be j x)).lim, i64 (m.put (be j x)).e] 130]) (by repeat constructor) ?_
        first | refine WE.end0 rfl ?_ | refine WE.ret0 rfl ?_
        exact ⟨rfl, v2, rfl⟩
end Go.Proofs.Ytamofjpadnnppaa
namespace Go.Proofs.Ytamofjpadnnppaa
open Go.RowKit Go.BK
def rk (l : List UInt8) : Int × PR := (PR.mk 0 l).num 1
def ra (l : List UInt8) : Int × PR := (rk l).2.num 4
def rb (l : List UInt8) : Int × PR := (ra l).2.num 4
def rc (l : List UInt8) : Int × PR := (rb l).2.num 4
end Go.Proofs.Ytamofjpadnnppaa
namespace Go.Proofs.Ytamofjpadnnppaa
open Go.RowKit Go.BK
theorem be1 (x : Int) : be 1 x = [bytOf x] := by simp [be]
theorem rright_spec (v : Value) (l : List Int) (n m : Int) (w : World) (S : BSet) (hS : (sepL []).sat S w) (hx : Sees w S (.row 1 v l.length (l.map i64))) (hl : l.length ≤ 17592186044416) :
    Tri Try.prog 40 #[v, i64 n, i64 m] w S fun u A => u = .bool (okF l n m) ∧ A = [] := by
  refine Tri.enter (l := [v, i64 n, i64 m]) Try.func40 rfl Try.ntmps40 rfl [(0, v), (1, i64 n), (2, i64 m)] (subA rfl) hS ?_
  repeat first
    | (apply WL.q; exact rfl; exact rfl; exact rfl; (first | (apply EvW.move; exact rfl) | (apply EvW.assign; exact rfl) | (apply EvW.lenRow; exact rfl; exact UndC.eq; assumption)))
    | refine WC.seq ?_ | refine WC.region ?_ | refine WL.nil ?_ | refine WE.next ?_ | refine WC.block ?_
  refine WC.loopK (σ := Nat) [0, 1, 2, 9, 10] (fun s => [(11, i64 s)]) (fun s => []) (fun s => s ≤ l.length ∧ (l.take s).all (inTo m) = true) (fun s => l.length - s) 0 (by (focus ((repeat (first | exact Pick.nil | (apply Pick.cons; exact rfl))); done))) (by (focus ((repeat (first | exact trivial | (refine ⟨rfl, ?_⟩))); done))) (fun _ h => h.keep (by repeat constructor)) ⟨Nat.zero_le _, rfl⟩ (fun s hs => ?_)
  obtain ⟨k, rfl⟩ : ∃ q, q = s := ⟨s, rfl⟩
  simp only [List.cons_append, List.nil_append] at hs ⊢
  obtain ⟨hs, hok⟩ := hs
  by_cases hlt : (k : Int) < l.length
  · have hin := getD_in l 0 k (by omega)
    have hnext := all_take (inTo m) l 0 k (by omega)
    rw [hok, Bool.true_and] at hnext
    by_cases h0 : l.getD ((k : Nat) : Int).toNat 0 < 0
    · have hbad : okF l n m = false := by
        unfold okF
        rw [all_bad hin (by unfold inTo; rw [decide_eq_false (show ¬ 0 ≤ l.getD k 0 from by have h0' : l.getD k 0 < 0 := h0; omega), Bool.false_and]), Bool.and_false]
      repeat first
        | (apply WL.q; exact rfl; exact rfl; exact rfl; (first | (apply EvW.move; exact rfl) | (apply EvW.assign; exact rfl) | (apply EvW.cmpT; exact rfl; exact rfl; exact rfl; omega) | (apply EvW.pickT; exact rfl; exact rfl) | (apply EvW.idxRow; exact rfl; exact rfl; exact UndC.eq; exact SzC.eq; assumption; omega; omega) | (apply EvW.ldInt; exact rfl; exact ScalC.eq; assumption; omega)))
        | refine WC.seq ?_ | refine WC.region ?_ | refine WL.nil ?_ | refine WE.next ?_ | refine WC.block ?_ | refine WC.skip ?_ | refine WC.condT rfl ?_ | refine WC.ret ?_ | refine WE.passRet ?_ | refine WE.outRet ?_ | refine WL.unwanted rfl rfl rfl rfl ?_
      refine WE.ret1 rfl rfl ?_
      exact ⟨by rw [hbad], rfl⟩
    · by_cases hm : l.getD ((k : Nat) : Int).toNat 0 ≤ m
      · repeat first
          | (apply WL.q; exact rfl; exact rfl; exact rfl; (first | (apply EvW.move; exact rfl) | (apply EvW.assign; exact rfl) | (apply EvW.cmpT; exact rfl; exact rfl; exact rfl; omega) | (apply EvW.cmpF; exact rfl; exact rfl; exact rfl; omega) | (apply EvW.arN; exact rfl; exact rfl; exact rfl; refine i64_in ?_ ?_ <;> omega) | (apply EvW.pickF; exact rfl; exact rfl) | (apply EvW.idxRow; exact rfl; exact rfl; exact UndC.eq; exact SzC.eq; assumption; omega; omega) | (apply EvW.ldInt; exact rfl; exact ScalC.eq; assumption; omega)))
          | refine WC.seq ?_ | refine WC.region ?_ | refine WL.nil ?_ | refine WE.next ?_ | refine WC.block ?_ | refine WC.skip ?_ | refine WE.out ?_ | refine WC.condT rfl ?_ | refine WC.condF rfl ?_ | refine WL.wanted rfl rfl rfl ?_
        have hgo : (l.take (k + 1)).all (inTo m) = true := by
          rw [hnext]
          unfold inTo
          rw [decide_eq_true (show 0 ≤ l.getD k 0 from by have h0' : ¬ l.getD k 0 < 0 := h0; omega), decide_eq_true (show l.getD k 0 ≤ m from hm)]
          rfl
        exact WE.again (s := k) ((k + 1)) ⟨by omega, hgo⟩ (by (focus ((repeat (first | exact trivial | (refine ⟨rfl, ?_⟩))); done))) (fun _ h => (by (try simp only []); exact h.keep (by repeat constructor))) (by (try simp only []); omega)
      · have hbad : okF l n m = false := by
          unfold okF
          rw [all_bad hin (by unfold inTo; rw [decide_eq_false (show ¬ l.getD k 0 ≤ m from hm), Bool.and_false]), Bool.and_false]
        repeat first
          | (apply WL.q; exact rfl; exact rfl; exact rfl; (first | (apply EvW.move; exact rfl) | (apply EvW.assign; exact rfl) | (apply EvW.cmpT; exact rfl; exact rfl; exact rfl; omega) | (apply EvW.cmpF; exact rfl; exact rfl; exact rfl; omega) | (apply EvW.pickF; exact rfl; exact rfl) | (apply EvW.idxRow; exact rfl; exact rfl; exact UndC.eq; exact SzC.eq; assumption; omega; omega) | (apply EvW.ldInt; exact rfl; exact ScalC.eq; assumption; omega)))
          | refine WC.seq ?_ | refine WC.region ?_ | refine WL.nil ?_ | refine WE.next ?_ | refine WC.block ?_ | refine WC.skip ?_ | refine WC.condT rfl ?_ | refine WC.ret ?_ | refine WE.passRet ?_ | refine WE.outRet ?_ | refine WL.wanted rfl rfl rfl ?_
        refine WE.ret1 rfl rfl ?_
        exact ⟨by rw [hbad], rfl⟩
  · obtain rfl : l.length = k := by omega
    have hall := all_got hok
    by_cases hn : (l.length : Int) = n
    · repeat first
        | (apply WL.q; exact rfl; exact rfl; exact rfl; (first | (apply EvW.move; exact rfl) | (apply EvW.assign; exact rfl) | (apply EvW.cmpT; exact rfl; exact rfl; exact rfl; omega) | (apply EvW.cmpF; exact rfl; exact rfl; exact rfl; omega) | (apply EvW.lenRow; exact rfl; exact UndC.eq; assumption)))
        | refine WC.seq ?_ | refine WC.region ?_ | refine WL.nil ?_ | refine WE.next ?_ | refine WC.exit ?_ | refine WE.pass ?_ | refine WE.hit ?_ | refine WC.condF rfl ?_ | refine WC.ret ?_
      refine WE.ret1 rfl rfl ?_
      exact ⟨by unfold okF; rw [hall, decide_eq_true hn]; rfl, rfl⟩
    · repeat first
        | (apply WL.q; exact rfl; exact rfl; exact rfl; (first | (apply EvW.move; exact rfl) | (apply EvW.assign; exact rfl) | (apply EvW.cmpF; exact rfl; exact rfl; exact rfl; omega) | (apply EvW.lenRow; exact rfl; exact UndC.eq; assumption)))
        | refine WC.seq ?_ | refine WC.region ?_ | refine WL.nil ?_ | refine WE.next ?_ | refine WC.exit ?_ | refine WE.pass ?_ | refine WE.hit ?_ | refine WC.condF rfl ?_ | refine WC.ret ?_
      refine WE.ret1 rfl rfl ?_
      exact ⟨by unfold okF; rw [hall, decide_eq_false hn]; rfl, rfl⟩
def wr (kind : Int) (ps : List (Value × List Int)) : List UInt8 := be 1 kind ++ ps.flatMap fun p => p.2.flatMap (be 1)
instance : Inhabited (Value × List Int) := ⟨(.slice none 0 0, [])⟩
theorem wr_snoc (kind : Int) (ps : List (Value × List Int)) (i : Nat) (h : i < ps.length) : wr kind (ps.take (i + 1)) = wr kind (ps.take i) ++ (ps.getD i default).2.flatMap (be 1) := by
  unfold wr
  rw [List.take_add_one, List.getD_eq_getElem?_getD, List.getElem?_eq_getElem h, List.flatMap_append, ← List.append_assoc]
  simp only [Option.toList_some, List.flatMap_cons, List.flatMap_nil, List.append_nil, Option.getD_some]
theorem wr_len (kind : Int) : ∀ (ps : List (Value × List Int)), (∀ p ∈ ps, p.2.length ≤ 17592186044416) → (wr kind ps).length ≤ 1 + ps.length * 17592186044416
  | [], _ => by simp [wr, be_length]
  | p :: ps, h => by
    have h1 := wr_len kind ps fun q hq => h q (by simp [hq])
    have h2 := h p (by simp)
    have e : (wr kind (p :: ps)).length = (wr kind ps).length + p.2.length := by
      unfold wr
      simp only [List.flatMap_cons, List.length_append, flat1_len]
      omega
    rw [e, List.length_cons]
    omega
theorem flat_snoc (l : List Int) (k : Nat) (h : k < l.length) : (l.take (k + 1)).flatMap (be 1) = (l.take k).flatMap (be 1) ++ [bytOf (l.getD k 0)] := by
  rw [List.take_add_one, List.getD_eq_getElem?_getD, List.getElem?_eq_getElem h, List.flatMap_append]
  simp [be1]
theorem rbytes_spec (kind : Int) (lv : Value) (ps : List (Value × List Int)) (w : World) (S : BSet) (hS : (sepL []).sat S w) (hx : Sees w S (.row 1 lv ps.length (ps.map (·.1)))) (hp : ∀ p ∈ ps, Sees w S (.row 1 p.1 p.2.length (p.2.map i64)) ∧ p.2.length ≤ 17592186044416) (hl : ps.length ≤ 4) :
    Tri Try.prog 41 #[i64 kind, lv] w S fun u A => u = str (wr kind ps) ∧ A = [] := by
  refine Tri.enter (l := [i64 kind, lv]) Try.func41 rfl Try.ntmps41 rfl [(0, i64 kind), (1, lv)] (subA rfl) hS ?_
  repeat first
    | (apply WL.q; exact rfl; exact rfl; exact rfl; (first | (apply EvW.move; exact rfl) | (apply EvW.assign; exact rfl) | (apply EvW.conv; exact rfl; exact UndC.eq; exact UndC.eq)))
    | refine WC.seq ?_ | refine WC.region ?_ | refine WL.nil ?_ | refine WE.next ?_
  try refine WL.wanted rfl rfl rfl ?_
  (apply WL.buildSlice; exact rfl; exact UndC.eq; exact SzC.eq; exact ZvC.eq; exact rfl; exact rfl; exact rfl; ((focus ((repeat (first | exact Flat.nil | (apply Flat.one; (first | exact rfl | assumption)) | (apply Flat.cons; exact rfl; exact rfl))); done))); exact rfl; exact rfl; intro c)
  refine WL.toOwn (bl := c) 1 1 .head rfl ?_
  refine WL.ownEq (cs' := (wr kind (ps.take 0)).map byt) (len' := (wr kind (ps.take 0)).length) .head (by simp [wr, be1]) (by simp [wr, be1, byt_of]) ?_
  repeat first
    | (apply WL.q; exact rfl; exact rfl; exact rfl; (first | (apply EvW.move; exact rfl) | (apply EvW.assign; exact rfl) | (apply EvW.lenRow; exact rfl; exact UndC.eq; assumption)))
    | refine WC.seq ?_ | refine WC.region ?_ | refine WL.nil ?_ | refine WE.next ?_ | refine WC.block ?_
  refine WC.loopK (σ := Nat × Value) [13, 14] (fun s => [(15, i64 s.1), (5, s.2)]) (fun s => [.own 5 1 (s.2) (wr kind (ps.take s.1)).length ((wr kind (ps.take s.1)).map byt)]) (fun s => s.1 ≤ ps.length) (fun s => ps.length - s.1) (0, .slice (some ⟨c, 0, none⟩) 1 1) (by (focus ((repeat (first | exact Pick.nil | (apply Pick.cons; exact rfl))); done))) (by (focus ((repeat (first | exact trivial | (refine ⟨rfl, ?_⟩))); done))) (fun _ h => h.keep (by repeat constructor)) (Nat.zero_le _) (fun s hs => ?_)
  obtain ⟨i, v⟩ := s
  simp only [List.cons_append, List.nil_append] at hs ⊢
  by_cases hlt : (i : Int) < ps.length
  · have hmem := getD_in ps default i (by omega)
    have hsn := wr_snoc kind ps i (by omega)
    have hlen := wr_len kind (ps.take i) fun p hp' => (hp p (List.mem_of_mem_take hp')).2
    rw [List.length_take_of_le (by omega)] at hlen
    obtain ⟨hr, hL⟩ := hp _ hmem
    repeat first
      | (apply WL.q; exact rfl; exact rfl; exact rfl; (first | (apply EvW.cmpT; exact rfl; exact rfl; exact rfl; omega) | (apply EvW.idxRow; exact rfl; exact rfl; exact UndC.eq; exact SzC.eq; assumption; omega; omega)))
      | refine WC.seq ?_ | refine WC.region ?_ | refine WL.nil ?_ | refine WE.next ?_ | refine WC.block ?_ | refine WC.skip ?_ | refine WC.condT rfl ?_
    try refine WL.wanted rfl rfl rfl ?_
    (apply WL.q; exact rfl; exact rfl; exact rfl; (apply EvW.ldRow (i := i) (off := 0) (q := (ps.getD i default).1); exact rfl; exact ScalC.eq; assumption; (simp only [Int.toNat_natCast, Nat.mul_one, Nat.add_zero]; rw [List.getElem?_map, List.getD_eq_getElem?_getD, List.getElem?_eq_getElem (show i < ps.length by omega)]; rfl)))
    generalize ps.getD i default = p at hmem hsn hr hL
    generalize wr kind (ps.take i) = W at hsn hlen
    refine WL.ownEq (cs' := (W ++ (p.2.take 0).flatMap (be 1)).map byt) (len' := (W ++ (p.2.take 0).flatMap (be 1)).length) .head (by simp) (by simp) ?_
    repeat first
      | (apply WL.q; exact rfl; exact rfl; exact rfl; (first | (apply EvW.move; exact rfl) | (apply EvW.assign; exact rfl) | (apply EvW.lenRow; exact rfl; exact UndC.eq; assumption)))
      | refine WC.seq ?_ | refine WC.region ?_ | refine WL.nil ?_ | refine WE.next ?_ | refine WC.block ?_
    refine WC.loopK (σ := Nat × Value) [13, 14, 15, 19, 20] (fun s => [(21, i64 s.1), (5, s.2)]) (fun s => [.own 5 1 (s.2) (W ++ (p.2.take s.1).flatMap (be 1)).length ((W ++ (p.2.take s.1).flatMap (be 1)).map byt)]) (fun s => s.1 ≤ p.2.length) (fun s => p.2.length - s.1) (0, v) (by (focus ((repeat (first | exact Pick.nil | (apply Pick.cons; exact rfl))); done))) (by (focus ((repeat (first | exact trivial | (refine ⟨rfl, ?_⟩))); done))) (fun _ h => h.keep (by repeat constructor)) (Nat.zero_le _) (fun s hs => ?_)
    obtain ⟨k, v2⟩ := s
    simp only [List.cons_append, List.nil_append] at hs ⊢
    by_cases hlt2 : (k : Int) < p.2.length
    · have hsn2 := flat_snoc p.2 k (by omega)
      have hl2 := flat1_len (p.2.take k)
      rw [List.length_take_of_le (by omega)] at hl2
      repeat first
        | (apply WL.q; exact rfl; exact rfl; exact rfl; (first | (apply EvW.move; exact rfl) | (apply EvW.assign; exact rfl) | (apply EvW.cmpT; exact rfl; exact rfl; exact rfl; omega) | (apply EvW.conv; exact rfl; exact UndC.eq; exact UndC.eq) | (apply EvW.idxRow; exact rfl; exact rfl; exact UndC.eq; exact SzC.eq; assumption; omega; omega) | (apply EvW.ldInt; exact rfl; exact ScalC.eq; assumption; omega)))
        | refine WC.seq ?_ | refine WC.region ?_ | refine WL.nil ?_ | refine WE.next ?_ | refine WC.block ?_ | refine WC.skip ?_ | refine WC.condT rfl ?_
      try refine WL.wanted rfl rfl rfl ?_
      (apply WL.buildSlice; exact rfl; exact UndC.eq; exact SzC.eq; exact ZvC.eq; exact rfl; exact rfl; exact rfl; ((focus ((repeat (first | exact Flat.nil | (apply Flat.one; (first | exact rfl | assumption)) | (apply Flat.cons; exact rfl; exact rfl))); done))); exact rfl; exact rfl; intro c1)
      try refine WL.wanted rfl rfl rfl ?_
      (apply WL.append; exact rfl; exact rfl; exact rfl; exact UndC.eq; exact SzC.eq; exact ByC.eq; exact ZvC.eq; exact rfl; (first | exact notInt_sl UndC.eq | exact notInt_st UndC.eq); exact rfl; (focus ((repeat constructor); done)))
      · exact adds_blk .head rfl rfl
      · (simp only [List.length_append]; omega)
      intro v3
      refine WL.ownEq (cs' := (W ++ (p.2.take (k + 1)).flatMap (be 1)).map byt) (len' := (W ++ (p.2.take (k + 1)).flatMap (be 1)).length) .head (by rw [hsn2]; simp; omega) (by rw [hsn2, ← List.append_assoc, List.map_append (l₁ := W ++ _)]; simp only [List.map_cons, List.map_nil, byt_of]; rfl) ?_
      repeat first
        | (apply WL.q; exact rfl; exact rfl; exact rfl; (first | (apply EvW.move; exact rfl) | (apply EvW.assign; exact rfl) | (apply EvW.arN; exact rfl; exact rfl; exact rfl; (first | (refine i64_in ?_ ?_ <;> omega) | (constructor <;> simp only [IntKind.min, IntKind.max, IntKind.signed, IntKind.bits, ↓reduceIte, Bool.false_eq_true] <;> omega)))))
        | refine WC.region ?_ | refine WL.nil ?_ | refine WE.next ?_ | refine WE.out ?_
      exact WE.again (s := (k, v2)) ((k + 1, v3)) (by simp only []; omega) (by (focus ((repeat (first | exact trivial | (refine ⟨rfl, ?_⟩))); done))) (fun _ h => (by (try simp only []); exact h.keep (by repeat constructor))) (by (try simp only []); omega)
    · obtain rfl : p.2.length = k := by omega
      rw [List.take_length]
      rw [← hsn]
      repeat first
        | (apply WL.q; exact rfl; exact rfl; exact rfl; (first | (apply EvW.move; exact rfl) | (apply EvW.cmpF; exact rfl; exact rfl; exact rfl; omega) | (apply EvW.arN; exact rfl; exact rfl; exact rfl; (first | (refine i64_in ?_ ?_ <;> omega) | (constructor <;> simp only [IntKind.min, IntKind.max, IntKind.signed, IntKind.bits, ↓reduceIte, Bool.false_eq_true] <;> omega)))))
        | refine WC.seq ?_ | refine WC.region ?_ | refine WL.nil ?_ | refine WE.next ?_ | refine WC.exit ?_ | refine WE.pass ?_ | refine WE.hit ?_ | refine WE.out ?_ | refine WC.condF rfl ?_
      exact WE.again (s := (i, v)) ((i + 1, v2)) (by simp only []; omega) (by (focus ((repeat (first | exact trivial | (refine ⟨rfl, ?_⟩))); done))) (fun _ h => (by (try simp only []); exact h.keep (by repeat constructor))) (by (try simp only []); omega)
  · obtain rfl : ps.length = i := by omega
    rw [List.take_length]
    repeat first
      | (apply WL.q; exact rfl; exact rfl; exact rfl; (first | (apply EvW.move; exact rfl) | (apply EvW.assign; exact rfl) | (apply EvW.cmpF; exact rfl; exact rfl; exact rfl; omega) | (apply EvW.strOwn; exact rfl; exact UndC.eq; exact UndC.eq; exact UndC.eq; (focus ((repeat constructor); done)))))
      | refine WC.seq ?_ | refine WC.region ?_ | refine WL.nil ?_ | refine WE.next ?_ | refine WC.exit ?_ | refine WE.pass ?_ | refine WE.hit ?_ | refine WC.condF rfl ?_ | refine WC.ret ?_
    refine WE.bare ?_
    refine WE.ret1 rfl rfl ?_
    exact ⟨rfl, rfl⟩
theorem rstatus_spec (h s : Q4) (w : World) (S : BSet) (hS : (sepL []).sat S w) (hh : h.Seen w S) (hs : s.Seen w S) :
    Tri Try.prog 13 #[.agg #[(h).a, (h).b, (h).y, (h).d], .agg #[(s).a, (s).b, (s).y, (s).d]] w S fun u A => u = .tuple #[str (if sOk h s = true then sPay s else []), i64 (if sOk h s = true then 0 else 32)] ∧ A = [] := by
  refine Tri.enter (l := [.agg #[(h).a, (h).b, (h).y, (h).d], .agg #[(s).a, (s).b, (s).y, (s).d]]) Try.func13 rfl Try.ntmps13 rfl [(0, .agg #[(h).a, (h).b, (h).y, (h).d]), (1, .agg #[(s).a, (s).b, (s).y, (s).d])] (subA rfl) hS ?_
  have g1 := hh.a
  have g2 := hh.b
  have g3 := hh.y
  have g4 := hh.d
  have hso : sOk h s = (okF s.la h.la.length 1 && (okF s.lb h.lb.length 2 && (okF s.ly h.ly.length 1 && (okF s.ld h.ld.length 1 && true)))) := rfl
  repeat first
    | refine WC.seq ?_ | refine WC.region ?_
  try refine WL.wanted rfl rfl rfl ?_
  (apply WL.box; exact rfl; exact rfl; exact rfl; intro q1)
  skip
  try refine WL.wanted rfl rfl rfl ?_
  (apply WL.box; exact rfl; exact rfl; exact rfl; intro q2)
  repeat first
    | (apply WL.q; exact rfl; exact rfl; exact rfl; (first | (apply EvW.assign; exact rfl) | (apply EvW.fieldAddr0; exact rfl; exact FldC.eq) | (apply EvW.load; exact rfl; exact ScalC.eq; (focus ((repeat constructor); done)); exact rfl) | (apply EvW.lenRow; exact rfl; exact UndC.eq; assumption)))
    | refine WC.seq ?_ | refine WC.region ?_ | refine WL.nil ?_ | refine WE.next ?_
  try refine WL.wanted rfl rfl rfl ?_
  apply WL.callA ([])
  · exact rfl
  · exact rfl
  · exact fun w => Try.call40 _ w
  · (focus ((repeat constructor); done))
  · exact fun w1 S1 hS1 hs1 ho1 => rright_spec s.a s.la h.la.length 1 w1 S1 hS1 (hs1 _ hs.a) hs.na
  rintro _ _ ⟨rfl, rfl⟩
  first | refine WL.app4 ?_ | refine WL.app3 ?_ | refine WL.app2 ?_ | refine WL.app1 ?_ | refine WL.app0 ?_ | skip
  cases o1 : okF s.la h.la.length 1
  · rw [show sOk h s = false by rw [hso, o1]; rfl, if_neg (by decide), if_neg (by decide)]
    repeat first
      | (apply WL.q; exact rfl; exact rfl; exact rfl; (first | (apply EvW.move; exact rfl) | (apply EvW.assign; exact rfl) | (apply EvW.pickT; exact rfl; exact rfl) | (apply EvW.notF; exact rfl)))
      | refine WC.seq ?_ | refine WC.region ?_ | refine WL.nil ?_ | refine WE.next ?_ | refine WC.condT rfl ?_ | refine WC.ret ?_ | refine WE.passRet ?_ | refine WL.unwanted rfl rfl rfl rfl ?_
    refine WE.bare ?_
    refine WE.retN (l := [4, 5]) rfl rfl rfl ?_
    exact ⟨rfl, rfl⟩
  repeat first
    | (apply WL.q; exact rfl; exact rfl; exact rfl; (first | (apply EvW.move; exact rfl) | (apply EvW.fieldAddr0; exact rfl; exact FldC.eq) | (apply EvW.load; exact rfl; exact ScalC.eq; (focus ((repeat constructor); done)); exact rfl) | (apply EvW.notT; exact rfl) | (apply EvW.lenRow; exact rfl; exact UndC.eq; assumption)))
    | refine WL.wanted rfl rfl rfl ?_
  try refine WL.wanted rfl rfl rfl ?_
  apply WL.callA ([])
  · exact rfl
  · exact rfl
  · exact fun w => Try.call40 _ w
  · (focus ((repeat constructor); done))
  · exact fun w1 S1 hS1 hs1 ho1 => rright_spec s.b s.lb h.lb.length 2 w1 S1 hS1 (hs1 _ hs.b) hs.nb
  rintro _ _ ⟨rfl, rfl⟩
  first | refine WL.app4 ?_ | refine WL.app3 ?_ | refine WL.app2 ?_ | refine WL.app1 ?_ | refine WL.app0 ?_ | skip
  cases o2 : okF s.lb h.lb.length 2
  · rw [show sOk h s = false by rw [hso, o1, o2]; rfl, if_neg (by decide), if_neg (by decide)]
    repeat first
      | (apply WL.q; exact rfl; exact rfl; exact rfl; (first | (apply EvW.move; exact rfl) | (apply EvW.assign; exact rfl) | (apply EvW.pickT; exact rfl; exact rfl) | (apply EvW.pickF; exact rfl; exact rfl) | (apply EvW.notF; exact rfl)))
      | refine WC.seq ?_ | refine WC.region ?_ | refine WL.nil ?_ | refine WE.next ?_ | refine WC.condT rfl ?_ | refine WC.ret ?_ | refine WE.passRet ?_ | refine WL.wanted rfl rfl rfl ?_ | refine WL.unwanted rfl rfl rfl rfl ?_
    refine WE.bare ?_
    refine WE.retN (l := [4, 5]) rfl rfl rfl ?_
    exact ⟨rfl, rfl⟩
  repeat first
    | (apply WL.q; exact rfl; exact rfl; exact rfl; (first | (apply EvW.move; exact rfl) | (apply EvW.fieldAddr0; exact rfl; exact FldC.eq) | (apply EvW.load; exact rfl; exact ScalC.eq; (focus ((repeat constructor); done)); exact rfl) | (apply EvW.pickF; exact rfl; exact rfl) | (apply EvW.notT; exact rfl) | (apply EvW.lenRow; exact rfl; exact UndC.eq; assumption)))
    | refine WL.wanted rfl rfl rfl ?_
  try refine WL.wanted rfl rfl rfl ?_
  apply WL.callA ([])
  · exact rfl
  · exact rfl
  · exact fun w => Try.call40 _ w
  · (focus ((repeat constructor); done))
  · exact fun w1 S1 hS1 hs1 ho1 => rright_spec s.y s.ly h.ly.length 1 w1 S1 hS1 (hs1 _ hs.y) hs.ny
  rintro _ _ ⟨rfl, rfl⟩
  first | refine WL.app4 ?_ | refine WL.app3 ?_ | refine WL.app2 ?_ | refine WL.app1 ?_ | refine WL.app0 ?_ | skip
  cases o3 : okF s.ly h.ly.length 1
  · rw [show sOk h s = false by rw [hso, o1, o2, o3]; rfl, if_neg (by decide), if_neg (by decide)]
    repeat first
      | (apply WL.q; exact rfl; exact rfl; exact rfl; (first | (apply EvW.move; exact rfl) | (apply EvW.assign; exact rfl) | (apply EvW.pickT; exact rfl; exact rfl) | (apply EvW.pickF; exact rfl; exact rfl) | (apply EvW.notF; exact rfl)))
      | refine WC.seq ?_ | refine WC.region ?_ | refine WL.nil ?_ | refine WE.next ?_ | refine WC.condT rfl ?_ | refine WC.ret ?_ | refine WE.passRet ?_ | refine WL.wanted rfl rfl rfl ?_ | refine WL.unwanted rfl rfl rfl rfl ?_
    refine WE.bare ?_
    refine WE.retN (l := [4, 5]) rfl rfl rfl ?_
    exact ⟨rfl, rfl⟩
  repeat first
    | (apply WL.q; exact rfl; exact rfl; exact rfl; (first | (apply EvW.move; exact rfl) | (apply EvW.fieldAddr0; exact rfl; exact FldC.eq) | (apply EvW.load; exact rfl; exact ScalC.eq; (focus ((repeat constructor); done)); exact rfl) | (apply EvW.pickF; exact rfl; exact rfl) | (apply EvW.notT; exact rfl) | (apply EvW.lenRow; exact rfl; exact UndC.eq; assumption)))
    | refine WL.wanted rfl rfl rfl ?_
  try refine WL.wanted rfl rfl rfl ?_
  apply WL.callA ([])
  · exact rfl
  · exact rfl
  · exact fun w => Try.call40 _ w
  · (focus ((repeat constructor); done))
  · exact fun w1 S1 hS1 hs1 ho1 => rright_spec s.d s.ld h.ld.length 1 w1 S1 hS1 (hs1 _ hs.d) hs.nd
  rintro _ _ ⟨rfl, rfl⟩
  first | refine WL.app4 ?_ | refine WL.app3 ?_ | refine WL.app2 ?_ | refine WL.app1 ?_ | refine WL.app0 ?_ | skip
  cases o4 : okF s.ld h.ld.length 1
  · rw [show sOk h s = false by rw [hso, o1, o2, o3, o4]; rfl, if_neg (by decide), if_neg (by decide)]
    repeat first
      | (apply WL.q; exact rfl; exact rfl; exact rfl; (first | (apply EvW.assign; exact rfl) | (apply EvW.pickF; exact rfl; exact rfl) | (apply EvW.notF; exact rfl)))
      | refine WC.seq ?_ | refine WC.region ?_ | refine WL.nil ?_ | refine WE.next ?_ | refine WC.condT rfl ?_ | refine WC.ret ?_ | refine WE.passRet ?_ | refine WL.wanted rfl rfl rfl ?_
    refine WE.bare ?_
    refine WE.retN (l := [4, 5]) rfl rfl rfl ?_
    exact ⟨rfl, rfl⟩
  have z1 := hs.a.row_one
  have z2 := hs.b.row_one
  have z3 := hs.y.row_one
  have z4 := hs.d.row_one
  rw [show sOk h s = true by rw [hso, o1, o2, o3, o4]; rfl, if_pos rfl, if_pos rfl]
  repeat first
    | (apply WL.q; exact rfl; exact rfl; exact rfl; (first | (apply EvW.fieldAddr0; exact rfl; exact FldC.eq) | (apply EvW.load; exact rfl; exact ScalC.eq; (focus ((repeat constructor); done)); exact rfl) | (apply EvW.pickF; exact rfl; exact rfl) | (apply EvW.notT; exact rfl)))
    | refine WC.seq ?_ | refine WC.region ?_ | refine WL.nil ?_ | refine WE.next ?_ | refine WC.skip ?_ | refine WC.condF rfl ?_ | refine WL.wanted rfl rfl rfl ?_
  try refine WL.wanted rfl rfl rfl ?_
  (apply WL.buildSlice; exact rfl; exact UndC.eq; exact SzC.eq; exact ZvC.eq; exact rfl; exact rfl; exact rfl; ((focus ((repeat (first | exact Flat.nil | (apply Flat.one; (first | exact rfl | assumption)) | (apply Flat.cons; exact rfl; exact rfl))); done))); exact rfl; exact rfl; intro c)
  try refine WL.wanted rfl rfl rfl ?_
  apply WL.callA ([])
  · exact rfl
  · exact rfl
  · exact fun w => Try.call41 _ w
  · (focus ((repeat constructor); done))
  · exact fun w1 S1 hS1 hs1 ho1 => rbytes_spec 1 _ [(s.a, s.la), (s.b, s.lb), (s.y, s.ly), (s.d, s.ld)] w1 S1 hS1 ((ho1 _ _ .head).blkRow rfl (fun k u h => by simpa using h) (by simp)) (by have hs' := hs.down hs1; intro p hp; simp only [List.mem_cons, List.not_mem_nil, or_false] at hp; rcases hp with rfl | rfl | rfl | rfl; exact ⟨hs'.a, hs'.na⟩; exact ⟨hs'.b, hs'.nb⟩; exact ⟨hs'.y, hs'.ny⟩; exact ⟨hs'.d, hs'.nd⟩) (by simp)
  rintro _ _ ⟨rfl, rfl⟩
  first | refine WL.app4 ?_ | refine WL.app3 ?_ | refine WL.app2 ?_ | refine WL.app1 ?_ | refine WL.app0 ?_ | skip
  repeat first
    | (apply WL.q; exact rfl; exact rfl; exact rfl; (first | (apply EvW.assign; exact rfl)))
    | refine WL.nil ?_ | refine WE.next ?_ | refine WC.ret ?_
  refine WE.bare ?_
  refine WE.retN (l := [4, 5]) rfl rfl rfl ?_
  exact ⟨rfl, rfl⟩
end Go.Proofs.Ytamofjpadnnppaa
namespace Go.Proofs.Ytamofjpadnnppaa
open Go.RowKit Go.BK
theorem tpart_le (l : List UInt8) (o n : Nat) : (tpart l o n).length ≤ n := by simp [tpart]; omega
theorem be1_byte (c : UInt8) : be 1 (c.toNat : Int) = [c] := by
  rw [be1]
  unfold bytOf
  have h := c.toNat_lt
  rw [wrap_in IntKind.u8 (by simp only [IntKind.min, IntKind.max, IntKind.signed, IntKind.bits, Bool.false_eq_true, ↓reduceIte]; omega)]
  simp
theorem tpart_flat (l : List UInt8) (o n : Nat) : (tpart l o n).flatMap (be 1) = (l.drop o).take n := by
  unfold tpart
  generalize (l.drop o).take n = m
  induction m with
  | nil => rfl
  | cons c m ih => rw [List.map_cons, List.flatMap_cons, be1_byte, ih]; rfl
theorem byte_head (l : List UInt8) (k : Int) (hk : 0 ≤ k ∧ k < 256) (h0 : 0 < l.length) (h : ((l.getD 0 0).toNat : Int) = k) : l.take 1 = be 1 k := by
  cases l with
  | nil => simp at h0
  | cons c t =>
    simp at h
    rw [← h, be1_byte]
    simp
theorem cat4 (l : List UInt8) (n0 n1 n2 n3 : Nat) (h : l.length = 1 + n0 + n1 + n2 + n3) : l = l.take 1 ++ ((l.drop 1).take n0 ++ ((l.drop (1 + n0)).take n1 ++ ((l.drop (1 + n0 + n1)).take n2 ++ ((l.drop (1 + n0 + n1 + n2)).take n3 ++ [])))) := by
  rw [List.append_nil, List.take_of_length_le (i := n3) (by simp; omega)]
  rw [← List.drop_drop (i := n2), List.take_append_drop, ← List.drop_drop (i := n1), List.take_append_drop, ← List.drop_drop (i := n0), List.take_append_drop, List.take_append_drop]
/-- The status that the bytes would say. -/
def sOf (h : Q4) (l : List UInt8) (a b y d : Value) : Q4 := ⟨a, b, y, d, tpart l 1 h.la.length, tpart l (1 + h.la.length) h.lb.length, tpart l (1 + h.la.length + h.lb.length) h.ly.length, tpart l (1 + h.la.length + h.lb.length + h.ly.length) h.ld.length⟩
theorem okF_iff {l : List Int} {n : Nat} {m : Int} : okF l n m = true ↔ l.length = n ∧ l.all (inTo m) = true := by
  unfold okF
  rw [Bool.and_eq_true, decide_eq_true_eq]
  constructor
  · rintro ⟨h1, h2⟩; exact ⟨by omega, h2⟩
  · rintro ⟨h1, h2⟩; exact ⟨by omega, h2⟩
theorem sOk_iff {h s : Q4} : sOk h s = true ↔ okF s.la h.la.length 1 = true ∧ okF s.lb h.lb.length 2 = true ∧ okF s.ly h.ly.length 1 = true ∧ okF s.ld h.ld.length 1 = true := by
  unfold sOk
  simp only [Bool.and_eq_true, Bool.and_true]
theorem sGood_iff (h : Q4) (l : List UInt8) (a b y d : Value) : sGood h l ↔ sOk h (sOf h l a b y d) = true ∧ sPay (sOf h l a b y d) = l := by
  rw [sOk_iff]
  constructor
  · rintro ⟨hl, hk, g0, g1, g2, g3⟩
    refine ⟨⟨okF_iff.2 ⟨tpart_length _ _ _ (by omega), g0⟩, okF_iff.2 ⟨tpart_length _ _ _ (by omega), g1⟩, okF_iff.2 ⟨tpart_length _ _ _ (by omega), g2⟩, okF_iff.2 ⟨tpart_length _ _ _ (by omega), g3⟩⟩, ?_⟩
    unfold sPay sOf
    simp only [tpart_flat]
    rw [← byte_head l 1 (by decide) (by omega) hk]
    exact (cat4 l _ _ _ _ hl).symm
  · rintro ⟨⟨o0, o1, o2, o3⟩, hp⟩
    have p0 := okF_iff.1 o0
    have p1 := okF_iff.1 o1
    have p2 := okF_iff.1 o2
    have p3 := okF_iff.1 o3
    have hlen := congrArg List.length hp
    unfold sPay at hlen
    simp only [List.length_append, flat1_len, be_length, List.length_nil] at hlen
    refine ⟨by omega, ?_, p0.2, p1.2, p2.2, p3.2⟩
    rw [← hp]
    rfl
end Go.Proofs.Ytamofjpadnnppaa
namespace Go.Proofs.Ytamofjpadnnppaa
open Go.RowKit Go.BK
theorem tri_turn {P : Program} {f : FuncId} {args : Array Value} {w0 : World} {S0 : BSet} {R R' : Value → List HP → Prop} (h : Tri P f args w0 S0 R) (k : ∀ v A, R v A → ∃ A', R' v A' ∧ ∀ w, St w0 S0 A w → St w0 S0 A' w) : Tri P f args w0 S0 R' :=
  ⟨h.go.mono fun _ _ ⟨v, A, h1, h2, h3⟩ => by
    obtain ⟨A', hR, hs⟩ := k v A h2
    exact ⟨v, A', h1, hR, hs _ h3⟩⟩
def RS (h : Q4) (l : List UInt8) (e : Int) (z : List Int × List Int × List Int × List Int) : Prop :=
  (sGood h l ∧ e = 0 ∧ z = (tpart l 1 h.la.length, tpart l (1 + h.la.length) h.lb.length, tpart l (1 + h.la.length + h.lb.length) h.ly.length, tpart l (1 + h.la.length + h.lb.length + h.ly.length) h.ld.length)) ∨ (¬ sGood h l ∧ e = 3 ∧ z = ([], [], [], []))
theorem RS.ex (h : Q4) (l : List UInt8) : ∃ e z, RS h l e z := by
  by_cases hg : sGood h l
  · exact ⟨_, _, .inl ⟨hg, rfl, rfl⟩⟩
  · exact ⟨_, _, .inr ⟨hg, rfl, rfl⟩⟩
theorem RS.le {h : Q4} {l : List UInt8} {e : Int} {z : List Int × List Int × List Int × List Int} (k : RS h l e z) {w : World} {S : BSet} (hh : h.Seen w S) : z.1.length ≤ 17592186044416 ∧ z.2.1.length ≤ 17592186044416 ∧ z.2.2.1.length ≤ 17592186044416 ∧ z.2.2.2.length ≤ 17592186044416 := by
  rcases k with ⟨_, _, rfl⟩ | ⟨_, _, rfl⟩
  · exact ⟨Nat.le_trans (tpart_le _ _ _) hh.na, Nat.le_trans (tpart_le _ _ _) hh.nb, Nat.le_trans (tpart_le _ _ _) hh.ny, Nat.le_trans (tpart_le _ _ _) hh.nd⟩
  · simp
theorem trs_spec (h : Q4) (l : List UInt8) (e : Int) (z : List Int × List Int × List Int × List Int) (w : World) (S : BSet) (hS : (sepL []).sat S w) (hh : h.Seen w S) (hl : l.length ≤ 140737488355328) (k : RS h l e z) :
    Tri Try.prog 30 #[.agg #[(h).a, (h).b, (h).y, (h).d], str l] w S fun u A => ∃ a b y d : Value, u = .tuple #[.agg #[a, b, y, d], i64 e] ∧ A = [.own 3 1 (a) (z.1).length ((z.1).map i64), .own 3 1 (b) (z.2.1).length ((z.2.1).map i64), .own 3 1 (y) (z.2.2.1).length ((z.2.2.1).map i64), .own 3 1 (d) (z.2.2.2).length ((z.2.2.2).map i64)] := by
  rcases k with ⟨hg, rfl, rfl⟩ | ⟨hg, rfl, rfl⟩
  · exact trstatus_good h l w S hS hh hl hg
  · refine tri_turn (trstatus_bad h l w S hS hh hl hg) ?_
    rintro _ _ ⟨rfl, rfl⟩
    exact ⟨_, ⟨_, _, _, _, rfl, rfl⟩, fun w hs => hs.ownNil.ownNil.ownNil.ownNil⟩
end Go.Proofs.Ytamofjpadnnppaa
namespace Go.BK
def crcP : BitVec 32 := 79764919#32
def crcT (x : BitVec 32) : BitVec 32 := (x <<< 1) ^^^ (crcP &&& -(x >>> 31))
theorem shr31 (x : BitVec 32) : x >>> 31 = if x.msb then 1#32 else 0#32 := by
  apply BitVec.eq_of_toNat_eq
  have := x.isLt
  rw [BitVec.toNat_ushiftRight, Nat.shiftRight_eq_div_pow, BitVec.msb_eq_decide]
  by_cases h : 2 ^ (32 - 1) ≤ x.toNat
  · rw [if_pos (by simpa using h)]; show x.toNat / 2 ^ 31 = 1; omega
  · rw [if_neg (by simpa using h)]; show x.toNat / 2 ^ 31 = 0; omega
theorem crcT_eq (x : BitVec 32) : crcT x = (x <<< 1) ^^^ (if x.msb then crcP else 0#32) := by
  unfold crcT
  rw [shr31]
  cases x.msb <;> rfl
def crcN : Nat → BitVec 32 → BitVec 32
  | 0, x => x
  | n + 1, x => crcN n (crcT x)
theorem crcN_add (m n : Nat) (x : BitVec 32) : crcN (m + n) x = crcN n (crcN m x) := by
  induction m generalizing x with
  | zero => rw [Nat.zero_add]; rfl
  | succ m ih => rw [Nat.succ_add]; exact ih _
/-- A byte at the register's top. -/
def crcU (c : UInt8) : BitVec 32 := BitVec.ofNat 32 c.toNat
def crcB (x : BitVec 32) (c : UInt8) : BitVec 32 := crcN 8 (x ^^^ crcU c <<< 24)
def crcL (x : BitVec 32) (l : List UInt8) : BitVec 32 := l.foldl crcB x
def crc (l : List UInt8) : BitVec 32 := crcL 4294967295#32 l
theorem crcU_nat (c : UInt8) : (crcU c).toNat = c.toNat := by
  have := c.toNat_lt
  rw [crcU, BitVec.toNat_ofNat]; omega
theorem crcL_append (x : BitVec 32) (a b : List UInt8) : crcL x (a ++ b) = crcL (crcL x a) b := by simp [crcL, List.foldl_append]
end Go.BK
namespace Go.Proofs.Ytamofjpadnnppaa
open Go.RowKit Go.BK
abbrev u32v (x : BitVec 32) : Value := .int .u32 (x.toNat : Int)
theorem crcN_succ (n : Nat) (x : BitVec 32) : crcN (n + 1) x = crcT (crcN n x) := by rw [crcN_add]; rfl
theorem flat_take (ps : List (List UInt8)) (k : Nat) (h : k < ps.length) : (ps.take (k + 1)).flatten = (ps.take k).flatten ++ ps.getD k [] := by
  have e : ps.getD k [] = ps[k] := by simp [List.getD_eq_getElem?_getD, List.getElem?_eq_getElem h]
  rw [e, List.take_add_one, List.getElem?_eq_getElem h, List.flatten_append]
  simp only [Option.toList_some, List.flatten_cons, List.flatten_nil, List.append_nil]
theorem crc_append (a b : List UInt8) : crcL (crc a) b = crc (a ++ b) := (crcL_append _ _ _).symm
theorem crcL_snoc (x : BitVec 32) (l : List UInt8) (c : UInt8) : crcL x (l ++ [c]) = crcN 8 (crcL x l ^^^ crcU c <<< 24) := by rw [crcL_append]; rfl
theorem take_snoc (l : List UInt8) (i : Nat) (h : i < l.length) : l.take (i + 1) = l.take i ++ [l.getD i 0] := by
  rw [List.take_add_one, List.getElem?_eq_getElem h]
  simp [List.getD_eq_getElem?_getD, List.getElem?_eq_getElem h]
theorem wr32 (x : BitVec 32) : IntKind.u32.wrap (x.toNat : Int) = (x.toNat : Int) := by
  have := x.isLt
  exact wrap_in IntKind.u32 (by simp only [IntKind.min, IntKind.max, IntKind.signed, IntKind.bits, Bool.false_eq_true, ↓reduceIte]; omega)
theorem of32 (x : BitVec 32) : BitVec.ofInt IntKind.u32.bits (x.toNat : Int) = x := by
  show BitVec.ofInt 32 (x.toNat : Int) = x
  rw [BitVec.ofInt_natCast, BitVec.ofNat_toNat, BitVec.setWidth_eq]
theorem wrN (n : Nat) : IntKind.u32.wrap (n : Int) = ((n % 2 ^ 32 : Nat) : Int) := by
  show (n : Int) % 2 ^ 32 = _
  rw [Int.natCast_emod]; rfl
theorem shl32 (x : BitVec 32) (k : Nat) : IntKind.u32.wrap ((x.toNat : Int) * 2 ^ k) = ((x <<< k).toNat : Int) := by
  have h := wrN (x.toNat * 2 ^ k)
  rw [Int.natCast_mul, Int.natCast_pow] at h
  rw [BitVec.toNat_shiftLeft, Nat.shiftLeft_eq]
  exact h
theorem shr32 (x : BitVec 32) (k : Nat) : ((x.toNat : Int)).fdiv (2 ^ k) = ((x >>> k).toNat : Int) := by
  rw [fdiv_two, BitVec.toNat_ushiftRight, Nat.shiftRight_eq_div_pow, Int.natCast_ediv, Int.natCast_pow]
  rfl
theorem neg32 (x : BitVec 32) : IntKind.u32.wrap (0 - (x.toNat : Int)) = ((-x).toNat : Int) := by
  have := x.isLt
  rw [BitVec.toNat_neg]
  show (0 - (x.toNat : Int)) % 2 ^ 32 = _
  omega
theorem cu32 (c : UInt8) : IntKind.u32.wrap (c.toNat : Int) = ((crcU c).toNat : Int) := by
  rw [crcU_nat, wrN, Nat.mod_eq_of_lt (by have := c.toNat_lt; omega)]
theorem sum_in (x : BitVec 32) (c : UInt8) : IntKind.u32.wrap ↑(BitVec.ofInt IntKind.u32.bits ↑x.toNat ^^^ BitVec.ofInt IntKind.u32.bits (IntKind.u32.wrap (IntKind.u32.wrap ↑c.toNat * 2 ^ min (Int.toNat 24) IntKind.u32.bits))).toNat = ((x ^^^ crcU c <<< 24).toNat : Int) := by
  rw [show min (Int.toNat 24) IntKind.u32.bits = 24 from rfl, cu32, shl32, of32, of32]
  exact wr32 _
theorem sum_step (x : BitVec 32) : IntKind.u32.wrap ↑(BitVec.ofInt IntKind.u32.bits (IntKind.u32.wrap (↑x.toNat * 2 ^ min (Int.toNat 1) IntKind.u32.bits)) ^^^
    BitVec.ofInt IntKind.u32.bits (IntKind.u32.wrap ↑(BitVec.ofInt IntKind.u32.bits 79764919 &&& BitVec.ofInt IntKind.u32.bits (IntKind.u32.wrap (0 - (x.toNat : Int).fdiv (2 ^ min (Int.toNat 31) IntKind.u32.bits)))).toNat)).toNat = ((crcT x).toNat : Int) := by
  rw [show min (Int.toNat 1) IntKind.u32.bits = 1 from rfl, show min (Int.toNat 31) IntKind.u32.bits = 31 from rfl, show (79764919 : Int) = (crcP.toNat : Int) from rfl, shr32, neg32, shl32]
  show IntKind.u32.wrap ↑(BitVec.ofInt 32 ((x <<< 1).toNat : Int) ^^^ BitVec.ofInt 32 (IntKind.u32.wrap ↑(BitVec.ofInt 32 (crcP.toNat : Int) &&& BitVec.ofInt 32 ((-(x >>> 31)).toNat : Int)).toNat)).toNat = _
  have o : ∀ y : BitVec 32, BitVec.ofInt 32 (y.toNat : Int) = y := of32
  rw [o, o, o, wr32 (crcP &&& -(x >>> 31)), o, wr32]
  rfl
theorem sum_spec (v : Value) (ps : List (List UInt8)) (w : World) (S : BSet) (hS : (sepL []).sat S w) (hx : Sees w S (.row 1 v ps.length (ps.map str))) (hpl : ps.length ≤ 140737488355328) (hql : ∀ p ∈ ps, p.length ≤ 140737488355328) :
    Tri Try.prog 89 #[v] w S fun u A => u = i64 ((crc ps.flatten).toNat : Int) ∧ A = [] := by
  refine Tri.enter (l := [v]) Try.func89 rfl Try.ntmps89 rfl [(0, v)] (subA rfl) hS ?_
  repeat first
    | (apply WL.q; exact rfl; exact rfl; exact rfl; (first | (apply EvW.move; exact rfl) | (apply EvW.assign; exact rfl) | (apply EvW.load; exact rfl; exact ScalC.eq; (focus ((repeat constructor); done)); exact rfl) | (apply EvW.lenS; exact rfl; exact UndC.eq) | (apply EvW.lenL; exact rfl; exact UndC.eq) | (apply EvW.cmpT; exact rfl; exact rfl; exact rfl; omega) | (apply EvW.cmpF; exact rfl; exact rfl; exact rfl; omega) | (apply EvW.cmp; exact rfl; exact rfl; exact rfl) | (apply EvW.arN; exact rfl; exact rfl; exact rfl; (first | (refine i64_in ?_ ?_ <;> omega) | (constructor <;> simp only [IntKind.min, IntKind.max, IntKind.signed, IntKind.bits, ↓reduceIte, Bool.false_eq_true] <;> omega))) | (apply EvW.ar; exact rfl; exact rfl; exact rfl) | (apply EvW.convN; exact rfl; exact UndC.eq; exact UndC.eq; (first | (refine i64_in ?_ ?_ <;> omega) | (constructor <;> simp only [IntKind.min, IntKind.max, IntKind.signed, IntKind.bits, ↓reduceIte, Bool.false_eq_true] <;> omega))) | (apply EvW.convW; exact rfl; exact UndC.eq; exact UndC.eq; exact of_decide_eq_true rfl) | (apply EvW.conv; exact rfl; exact UndC.eq; exact UndC.eq) | (apply EvW.negN; exact rfl; (first | (refine i64_in ?_ ?_ <;> omega) | (constructor <;> simp only [IntKind.min, IntKind.max, IntKind.signed, IntKind.bits, ↓reduceIte, Bool.false_eq_true] <;> omega))) | (apply EvW.neg; exact rfl) | (apply EvW.index; exact rfl; exact rfl; exact UndC.eq; omega; omega) | (apply EvW.shr; exact rfl; exact rfl; omega) | (apply EvW.shl; exact rfl; exact rfl; omega) | (apply EvW.ldStr; exact rfl; exact ScalC.eq; assumption; omega) | (apply EvW.ldStrOwn; exact rfl; exact ScalC.eq; (focus ((repeat constructor); done)); omega) | (apply EvW.lenRow; exact rfl; exact UndC.eq; assumption) | (apply EvW.lenOwn; exact rfl; exact UndC.eq; (focus ((repeat constructor); done))) | (apply EvW.idxRow; exact rfl; exact rfl; exact UndC.eq; exact SzC.eq; assumption; omega; omega) | (apply EvW.idxOwn; exact rfl; exact rfl; exact UndC.eq; exact SzC.eq; (focus ((repeat constructor); done)); omega; omega)))
    | refine WC.seq ?_ | refine WC.region ?_ | refine WL.nil ?_ | refine WE.next ?_ | refine WC.block ?_ | refine WC.skip ?_ | refine WC.exit ?_ | refine WE.pass ?_ | refine WE.hit ?_ | refine WE.miss rfl ?_ | refine WE.out ?_ | refine WC.condT rfl ?_ | refine WC.condF rfl ?_ | refine WC.ret ?_ | refine WE.passRet ?_ | refine WE.outRet ?_ | refine WL.wanted rfl rfl rfl ?_
  refine WC.loopK (σ := Nat) [7, 8] (fun s => [(9, i64 s), (3, u32v (crc (ps.take s).flatten))]) (fun s => []) (fun s => s ≤ ps.length) (fun s => ps.length - s) 0 (by (focus ((repeat (first | exact Pick.nil | (apply Pick.cons; exact rfl))); done))) (by (focus ((repeat (first | exact trivial | (refine ⟨rfl, ?_⟩))); done))) (fun _ h => h.keep (by repeat constructor)) (Nat.zero_le _) (fun s hs => ?_)
  obtain ⟨k, rfl⟩ : ∃ q, q = s := ⟨s, rfl⟩
  simp only [List.cons_append, List.nil_append] at hs ⊢
  by_cases hlt : (k : Int) < ps.length
  · have hfl := flat_take ps k (by omega)
    have hmem : ps.getD k [] ∈ ps := by rw [List.getD_eq_getElem?_getD, List.getElem?_eq_getElem (by omega)]; exact List.getElem_mem _
    have hpl2 := hql _ hmem
    obtain ⟨p, hp⟩ : ∃ p, ps.getD ((k : Nat) : Int).toNat [] = p := ⟨_, rfl⟩
    rw [show ps.getD k [] = p from hp] at hfl hpl2
    obtain ⟨r0, hr0⟩ : ∃ r0, crc (ps.take k).flatten = r0 := ⟨_, rfl⟩
    rw [hr0]
    repeat first
      | (apply WL.q; exact rfl; exact rfl; exact rfl; (first | (apply EvW.move; exact rfl) | (apply EvW.assign; exact rfl) | (apply EvW.load; exact rfl; exact ScalC.eq; (focus ((repeat constructor); done)); exact rfl) | (apply EvW.lenS; exact rfl; exact UndC.eq) | (apply EvW.lenL; exact rfl; exact UndC.eq) | (apply EvW.cmpT; exact rfl; exact rfl; exact rfl; omega) | (apply EvW.cmpF; exact rfl; exact rfl; exact rfl; omega) | (apply EvW.cmp; exact rfl; exact rfl; exact rfl) | (apply EvW.arN; exact rfl; exact rfl; exact rfl; (first | (refine i64_in ?_ ?_ <;> omega) | (constructor <;> simp only [IntKind.min, IntKind.max, IntKind.signed, IntKind.bits, ↓reduceIte, Bool.false_eq_true] <;> omega))) | (apply EvW.ar; exact rfl; exact rfl; exact rfl) | (apply EvW.convN; exact rfl; exact UndC.eq; exact UndC.eq; (first | (refine i64_in ?_ ?_ <;> omega) | (constructor <;> simp only [IntKind.min, IntKind.max, IntKind.signed, IntKind.bits, ↓reduceIte, Bool.false_eq_true] <;> omega))) | (apply EvW.convW; exact rfl; exact UndC.eq; exact UndC.eq; exact of_decide_eq_true rfl) | (apply EvW.conv; exact rfl; exact UndC.eq; exact UndC.eq) | (apply EvW.negN; exact rfl; (first | (refine i64_in ?_ ?_ <;> omega) | (constructor <;> simp only [IntKind.min, IntKind.max, IntKind.signed, IntKind.bits, ↓reduceIte, Bool.false_eq_true] <;> omega))) | (apply EvW.neg; exact rfl) | (apply EvW.index; exact rfl; exact rfl; exact UndC.eq; omega; omega) | (apply EvW.shr; exact rfl; exact rfl; omega) | (apply EvW.shl; exact rfl; exact rfl; omega) | (apply EvW.ldStr; exact rfl; exact ScalC.eq; assumption; omega) | (apply EvW.ldStrOwn; exact rfl; exact ScalC.eq; (focus ((repeat constructor); done)); omega) | (apply EvW.lenRow; exact rfl; exact UndC.eq; assumption) | (apply EvW.lenOwn; exact rfl; exact UndC.eq; (focus ((repeat constructor); done))) | (apply EvW.idxRow; exact rfl; exact rfl; exact UndC.eq; exact SzC.eq; assumption; omega; omega) | (apply EvW.idxOwn; exact rfl; exact rfl; exact UndC.eq; exact SzC.eq; (focus ((repeat constructor); done)); omega; omega)))
      | refine WC.seq ?_ | refine WC.region ?_ | refine WL.nil ?_ | refine WE.next ?_ | refine WC.block ?_ | refine WC.skip ?_ | refine WC.exit ?_ | refine WE.pass ?_ | refine WE.hit ?_ | refine WE.miss rfl ?_ | refine WE.out ?_ | refine WC.condT rfl ?_ | refine WC.condF rfl ?_ | refine WC.ret ?_ | refine WE.passRet ?_ | refine WE.outRet ?_ | refine WL.wanted rfl rfl rfl ?_
    rw [hp]
    repeat first
      | (apply WL.q; exact rfl; exact rfl; exact rfl; (first | (apply EvW.move; exact rfl) | (apply EvW.assign; exact rfl) | (apply EvW.load; exact rfl; exact ScalC.eq; (focus ((repeat constructor); done)); exact rfl) | (apply EvW.lenS; exact rfl; exact UndC.eq) | (apply EvW.lenL; exact rfl; exact UndC.eq) | (apply EvW.cmpT; exact rfl; exact rfl; exact rfl; omega) | (apply EvW.cmpF; exact rfl; exact rfl; exact rfl; omega) | (apply EvW.cmp; exact rfl; exact rfl; exact rfl) | (apply EvW.arN; exact rfl; exact rfl; exact rfl; (first | (refine i64_in ?_ ?_ <;> omega) | (constructor <;> simp only [IntKind.min, IntKind.max, IntKind.signed, IntKind.bits, ↓reduceIte, Bool.false_eq_true] <;> omega))) | (apply EvW.ar; exact rfl; exact rfl; exact rfl) | (apply EvW.convN; exact rfl; exact UndC.eq; exact UndC.eq; (first | (refine i64_in ?_ ?_ <;> omega) | (constructor <;> simp only [IntKind.min, IntKind.max, IntKind.signed, IntKind.bits, ↓reduceIte, Bool.false_eq_true] <;> omega))) | (apply EvW.convW; exact rfl; exact UndC.eq; exact UndC.eq; exact of_decide_eq_true rfl) | (apply EvW.conv; exact rfl; exact UndC.eq; exact UndC.eq) | (apply EvW.negN; exact rfl; (first | (refine i64_in ?_ ?_ <;> omega) | (constructor <;> simp only [IntKind.min, IntKind.max, IntKind.signed, IntKind.bits, ↓reduceIte, Bool.false_eq_true] <;> omega))) | (apply EvW.neg; exact rfl) | (apply EvW.index; exact rfl; exact rfl; exact UndC.eq; omega; omega) | (apply EvW.shr; exact rfl; exact rfl; omega) | (apply EvW.shl; exact rfl; exact rfl; omega) | (apply EvW.ldStr; exact rfl; exact ScalC.eq; assumption; omega) | (apply EvW.ldStrOwn; exact rfl; exact ScalC.eq; (focus ((repeat constructor); done)); omega) | (apply EvW.lenRow; exact rfl; exact UndC.eq; assumption) | (apply EvW.lenOwn; exact rfl; exact UndC.eq; (focus ((repeat constructor); done))) | (apply EvW.idxRow; exact rfl; exact rfl; exact UndC.eq; exact SzC.eq; assumption; omega; omega) | (apply EvW.idxOwn; exact rfl; exact rfl; exact UndC.eq; exact SzC.eq; (focus ((repeat constructor); done)); omega; omega)))
      | refine WC.seq ?_ | refine WC.region ?_ | refine WL.nil ?_ | refine WE.next ?_ | refine WC.block ?_ | refine WC.skip ?_ | refine WC.exit ?_ | refine WE.pass ?_ | refine WE.hit ?_ | refine WE.miss rfl ?_ | refine WE.out ?_ | refine WC.condT rfl ?_ | refine WC.condF rfl ?_ | refine WC.ret ?_ | refine WE.passRet ?_ | refine WE.outRet ?_ | refine WL.wanted rfl rfl rfl ?_
    refine WC.loopK (σ := Nat) [5, 7, 8, 9, 14] (fun s => [(15, i64 s), (3, u32v (crcL r0 (p.take s)))]) (fun s => []) (fun s => s ≤ p.length) (fun s => p.length - s) 0 (by (focus ((repeat (first | exact Pick.nil | (apply Pick.cons; exact rfl))); done))) (by (focus ((repeat (first | exact trivial | (refine ⟨rfl, ?_⟩))); done))) (fun _ h => h.keep (by repeat constructor)) (Nat.zero_le _) (fun s hs => ?_)
    obtain ⟨i, rfl⟩ : ∃ q, q = s := ⟨s, rfl⟩
    simp only [List.cons_append, List.nil_append] at hs ⊢
    by_cases hlt2 : (i : Int) < p.length
    · have hsn := take_snoc p i (by omega)
      repeat first
        | (apply WL.q; exact rfl; exact rfl; exact rfl; (first | (apply EvW.move; exact rfl) | (apply EvW.assign; exact rfl) | (apply EvW.load; exact rfl; exact ScalC.eq; (focus ((repeat constructor); done)); exact rfl) | (apply EvW.lenS; exact rfl; exact UndC.eq) | (apply EvW.lenL; exact rfl; exact UndC.eq) | (apply EvW.cmpT; exact rfl; exact rfl; exact rfl; omega) | (apply EvW.cmpF; exact rfl; exact rfl; exact rfl; omega) | (apply EvW.cmp; exact rfl; exact rfl; exact rfl) | (apply EvW.arN; exact rfl; exact rfl; exact rfl; (first | (refine i64_in ?_ ?_ <;> omega) | (constructor <;> simp only [IntKind.min, IntKind.max, IntKind.signed, IntKind.bits, ↓reduceIte, Bool.false_eq_true] <;> omega))) | (apply EvW.ar; exact rfl; exact rfl; exact rfl) | (apply EvW.convN; exact rfl; exact UndC.eq; exact UndC.eq; (first | (refine i64_in ?_ ?_ <;> omega) | (constructor <;> simp only [IntKind.min, IntKind.max, IntKind.signed, IntKind.bits, ↓reduceIte, Bool.false_eq_true] <;> omega))) | (apply EvW.convW; exact rfl; exact UndC.eq; exact UndC.eq; exact of_decide_eq_true rfl) | (apply EvW.conv; exact rfl; exact UndC.eq; exact UndC.eq) | (apply EvW.negN; exact rfl; (first | (refine i64_in ?_ ?_ <;> omega) | (constructor <;> simp only [IntKind.min, IntKind.max, IntKind.signed, IntKind.bits, ↓reduceIte, Bool.false_eq_true] <;> omega))) | (apply EvW.neg; exact rfl) | (apply EvW.index; exact rfl; exact rfl; exact UndC.eq; omega; omega) | (apply EvW.shr; exact rfl; exact rfl; omega) | (apply EvW.shl; exact rfl; exact rfl; omega) | (apply EvW.ldStr; exact rfl; exact ScalC.eq; assumption; omega) | (apply EvW.ldStrOwn; exact rfl; exact ScalC.eq; (focus ((repeat constructor); done)); omega) | (apply EvW.lenRow; exact rfl; exact UndC.eq; assumption) | (apply EvW.lenOwn; exact rfl; exact UndC.eq; (focus ((repeat constructor); done))) | (apply EvW.idxRow; exact rfl; exact rfl; exact UndC.eq; exact SzC.eq; assumption; omega; omega) | (apply EvW.idxOwn; exact rfl; exact rfl; exact UndC.eq; exact SzC.eq; (focus ((repeat constructor); done)); omega; omega)))
        | refine WC.seq ?_ | refine WC.region ?_ | refine WL.nil ?_ | refine WE.next ?_ | refine WC.block ?_ | refine WC.skip ?_ | refine WC.exit ?_ | refine WE.pass ?_ | refine WE.hit ?_ | refine WE.miss rfl ?_ | refine WE.out ?_ | refine WC.condT rfl ?_ | refine WC.condF rfl ?_ | refine WC.ret ?_ | refine WE.passRet ?_ | refine WE.outRet ?_ | refine WL.wanted rfl rfl rfl ?_
      rw [sum_in]
      refine WC.loopK (σ := Nat) [5, 7, 8, 9, 14, 15] (fun s => [(25, i64 s), (3, u32v (crcN s (crcL r0 (p.take i) ^^^ crcU (p.getD i 0) <<< 24)))]) (fun s => []) (fun s => s ≤ 8) (fun s => 8 - s) 0 (by (focus ((repeat (first | exact Pick.nil | (apply Pick.cons; exact rfl))); done))) (by (focus ((repeat (first | exact trivial | (refine ⟨rfl, ?_⟩))); done))) (fun _ h => h.keep (by repeat constructor)) (Nat.zero_le _) (fun s hs => ?_)
      obtain ⟨j, rfl⟩ : ∃ q, q = s := ⟨s, rfl⟩
      simp only [List.cons_append, List.nil_append] at hs ⊢
      by_cases hlt3 : (j : Int) < 8
      · repeat first
          | (apply WL.q; exact rfl; exact rfl; exact rfl; (first | (apply EvW.move; exact rfl) | (apply EvW.assign; exact rfl) | (apply EvW.load; exact rfl; exact ScalC.eq; (focus ((repeat constructor); done)); exact rfl) | (apply EvW.lenS; exact rfl; exact UndC.eq) | (apply EvW.lenL; exact rfl; exact UndC.eq) | (apply EvW.cmpT; exact rfl; exact rfl; exact rfl; omega) | (apply EvW.cmpF; exact rfl; exact rfl; exact rfl; omega) | (apply EvW.cmp; exact rfl; exact rfl; exact rfl) | (apply EvW.arN; exact rfl; exact rfl; exact rfl; (first | (refine i64_in ?_ ?_ <;> omega) | (constructor <;> simp only [IntKind.min, IntKind.max, IntKind.signed, IntKind.bits, ↓reduceIte, Bool.false_eq_true] <;> omega))) | (apply EvW.ar; exact rfl; exact rfl; exact rfl) | (apply EvW.convN; exact rfl; exact UndC.eq; exact UndC.eq; (first | (refine i64_in ?_ ?_ <;> omega) | (constructor <;> simp only [IntKind.min, IntKind.max, IntKind.signed, IntKind.bits, ↓reduceIte, Bool.false_eq_true] <;> omega))) | (apply EvW.convW; exact rfl; exact UndC.eq; exact UndC.eq; exact of_decide_eq_true rfl) | (apply EvW.conv; exact rfl; exact UndC.eq; exact UndC.eq) | (apply EvW.negN; exact rfl; (first | (refine i64_in ?_ ?_ <;> omega) | (constructor <;> simp only [IntKind.min, IntKind.max, IntKind.signed, IntKind.bits, ↓reduceIte, Bool.false_eq_true] <;> omega))) | (apply EvW.neg; exact rfl) | (apply EvW.index; exact rfl; exact rfl; exact UndC.eq; omega; omega) | (apply EvW.shr; exact rfl; exact rfl; omega) | (apply EvW.shl; exact rfl; exact rfl; omega) | (apply EvW.ldStr; exact rfl; exact ScalC.eq; assumption; omega) | (apply EvW.ldStrOwn; exact rfl; exact ScalC.eq; (focus ((repeat constructor); done)); omega) | (apply EvW.lenRow; exact rfl; exact UndC.eq; assumption) | (apply EvW.lenOwn; exact rfl; exact UndC.eq; (focus ((repeat constructor); done))) | (apply EvW.idxRow; exact rfl; exact rfl; exact UndC.eq; exact SzC.eq; assumption; omega; omega) | (apply EvW.idxOwn; exact rfl; exact rfl; exact UndC.eq; exact SzC.eq; (focus ((repeat constructor); done)); omega; omega)))
          | refine WC.seq ?_ | refine WC.region ?_ | refine WL.nil ?_ | refine WE.next ?_ | refine WC.block ?_ | refine WC.skip ?_ | refine WC.exit ?_ | refine WE.pass ?_ | refine WE.hit ?_ | refine WE.miss rfl ?_ | refine WE.out ?_ | refine WC.condT rfl ?_ | refine WC.condF rfl ?_ | refine WC.ret ?_ | refine WE.passRet ?_ | refine WE.outRet ?_ | refine WL.wanted rfl rfl rfl ?_
        rw [sum_step, ← crcN_succ]
        exact WE.again (s := j) (j + 1) (by omega) (by (focus ((repeat (first | exact trivial | (refine ⟨rfl, ?_⟩))); done))) (fun _ h => (by (try simp only []); exact h.keep (by repeat constructor))) (by (try simp only []); omega)
      · obtain rfl : j = 8 := by omega
        rw [← crcL_snoc, ← hsn]
        repeat first
          | (apply WL.q; exact rfl; exact rfl; exact rfl; (first | (apply EvW.move; exact rfl) | (apply EvW.assign; exact rfl) | (apply EvW.load; exact rfl; exact ScalC.eq; (focus ((repeat constructor); done)); exact rfl) | (apply EvW.lenS; exact rfl; exact UndC.eq) | (apply EvW.lenL; exact rfl; exact UndC.eq) | (apply EvW.cmpT; exact rfl; exact rfl; exact rfl; omega) | (apply EvW.cmpF; exact rfl; exact rfl; exact rfl; omega) | (apply EvW.cmp; exact rfl; exact rfl; exact rfl) | (apply EvW.arN; exact rfl; exact rfl; exact rfl; (first | (refine i64_in ?_ ?_ <;> omega) | (constructor <;> simp only [IntKind.min, IntKind.max, IntKind.signed, IntKind.bits, ↓reduceIte, Bool.false_eq_true] <;> omega))) | (apply EvW.ar; exact rfl; exact rfl; exact rfl) | (apply EvW.convN; exact rfl; exact UndC.eq; exact UndC.eq; (first | (refine i64_in ?_ ?_ <;> omega) | (constructor <;> simp only [IntKind.min, IntKind.max, IntKind.signed, IntKind.bits, ↓reduceIte, Bool.false_eq_true] <;> omega))) | (apply EvW.convW; exact rfl; exact UndC.eq; exact UndC.eq; exact of_decide_eq_true rfl) | (apply EvW.conv; exact rfl; exact UndC.eq; exact UndC.eq) | (apply EvW.negN; exact rfl; (first | (refine i64_in ?_ ?_ <;> omega) | (constructor <;> simp only [IntKind.min, IntKind.max, IntKind.signed, IntKind.bits, ↓reduceIte, Bool.false_eq_true] <;> omega))) | (apply EvW.neg; exact rfl) | (apply EvW.index; exact rfl; exact rfl; exact UndC.eq; omega; omega) | (apply EvW.shr; exact rfl; exact rfl; omega) | (apply EvW.shl; exact rfl; exact rfl; omega) | (apply EvW.ldStr; exact rfl; exact ScalC.eq; assumption; omega) | (apply EvW.ldStrOwn; exact rfl; exact ScalC.eq; (focus ((repeat constructor); done)); omega) | (apply EvW.lenRow; exact rfl; exact UndC.eq; assumption) | (apply EvW.lenOwn; exact rfl; exact UndC.eq; (focus ((repeat constructor); done))) | (apply EvW.idxRow; exact rfl; exact rfl; exact UndC.eq; exact SzC.eq; assumption; omega; omega) | (apply EvW.idxOwn; exact rfl; exact rfl; exact UndC.eq; exact SzC.eq; (focus ((repeat constructor); done)); omega; omega)))
          | refine WC.seq ?_ | refine WC.region ?_ | refine WL.nil ?_ | refine WE.next ?_ | refine WC.block ?_ | refine WC.skip ?_ | refine WC.exit ?_ | refine WE.pass ?_ | refine WE.hit ?_ | refine WE.miss rfl ?_ | refine WE.out ?_ | refine WC.condT rfl ?_ | refine WC.condF rfl ?_ | refine WC.ret ?_ | refine WE.passRet ?_ | refine WE.outRet ?_ | refine WL.wanted rfl rfl rfl ?_
        exact WE.again (s := i) (i + 1) (by omega) (by (focus ((repeat (first | exact trivial | (refine ⟨rfl, ?_⟩))); done))) (fun _ h => (by (try simp only []); exact h.keep (by repeat constructor))) (by (try simp only []); omega)
    · obtain rfl : i = p.length := by omega
      rw [List.take_length]
      repeat first
        | (apply WL.q; exact rfl; exact rfl; exact rfl; (first | (apply EvW.move; exact rfl) | (apply EvW.assign; exact rfl) | (apply EvW.load; exact rfl; exact ScalC.eq; (focus ((repeat constructor); done)); exact rfl) | (apply EvW.lenS; exact rfl; exact UndC.eq) | (apply EvW.lenL; exact rfl; exact UndC.eq) | (apply EvW.cmpT; exact rfl; exact rfl; exact rfl; omega) | (apply EvW.cmpF; exact rfl; exact rfl; exact rfl; omega) | (apply EvW.cmp; exact rfl; exact rfl; exact rfl) | (apply EvW.arN; exact rfl; exact rfl; exact rfl; (first | (refine i64_in ?_ ?_ <;> omega) | (constructor <;> simp only [IntKind.min, IntKind.max, IntKind.signed, IntKind.bits, ↓reduceIte, Bool.false_eq_true] <;> omega))) | (apply EvW.ar; exact rfl; exact rfl; exact rfl) | (apply EvW.convN; exact rfl; exact UndC.eq; exact UndC.eq; (first | (refine i64_in ?_ ?_ <;> omega) | (constructor <;> simp only [IntKind.min, IntKind.max, IntKind.signed, IntKind.bits, ↓reduceIte, Bool.false_eq_true] <;> omega))) | (apply EvW.convW; exact rfl; exact UndC.eq; exact UndC.eq; exact of_decide_eq_true rfl) | (apply EvW.conv; exact rfl; exact UndC.eq; exact UndC.eq) | (apply EvW.negN; exact rfl; (first | (refine i64_in ?_ ?_ <;> omega) | (constructor <;> simp only [IntKind.min, IntKind.max, IntKind.signed, IntKind.bits, ↓reduceIte, Bool.false_eq_true] <;> omega))) | (apply EvW.neg; exact rfl) | (apply EvW.index; exact rfl; exact rfl; exact UndC.eq; omega; omega) | (apply EvW.shr; exact rfl; exact rfl; omega) | (apply EvW.shl; exact rfl; exact rfl; omega) | (apply EvW.ldStr; exact rfl; exact ScalC.eq; assumption; omega) | (apply EvW.ldStrOwn; exact rfl; exact ScalC.eq; (focus ((repeat constructor); done)); omega) | (apply EvW.lenRow; exact rfl; exact UndC.eq; assumption) | (apply EvW.lenOwn; exact rfl; exact UndC.eq; (focus ((repeat constructor); done))) | (apply EvW.idxRow; exact rfl; exact rfl; exact UndC.eq; exact SzC.eq; assumption; omega; omega) | (apply EvW.idxOwn; exact rfl; exact rfl; exact UndC.eq; exact SzC.eq; (focus ((repeat constructor); done)); omega; omega)))
        | refine WC.seq ?_ | refine WC.region ?_ | refine WL.nil ?_ | refine WE.next ?_ | refine WC.block ?_ | refine WC.skip ?_ | refine WC.exit ?_ | refine WE.pass ?_ | refine WE.hit ?_ | refine WE.miss rfl ?_ | refine WE.out ?_ | refine WC.condT rfl ?_ | refine WC.condF rfl ?_ | refine WC.ret ?_ | refine WE.passRet ?_ | refine WE.outRet ?_ | refine WL.wanted rfl rfl rfl ?_
      rw [← hr0, crc_append, ← hfl]
      exact WE.again (s := k) (k + 1) (by omega) (by (focus ((repeat (first | exact trivial | (refine ⟨rfl, ?_⟩))); done))) (fun _ h => (by (try simp only []); exact h.keep (by repeat constructor))) (by (try simp only []); omega)
  · obtain rfl : k = ps.length := by omega
    rw [List.take_length]
    repeat first
      | (apply WL.q; exact rfl; exact rfl; exact rfl; (first | (apply EvW.move; exact rfl) | (apply EvW.assign; exact rfl) | (apply EvW.load; exact rfl; exact ScalC.eq; (focus ((repeat constructor); done)); exact rfl) | (apply EvW.lenS; exact rfl; exact UndC.eq) | (apply EvW.lenL; exact rfl; exact UndC.eq) | (apply EvW.cmpT; exact rfl; exact rfl; exact rfl; omega) | (apply EvW.cmpF; exact rfl; exact rfl; exact rfl; omega) | (apply EvW.cmp; exact rfl; exact rfl; exact rfl) | (apply EvW.arN; exact rfl; exact rfl; exact rfl; (first | (refine i64_in ?_ ?_ <;> omega) | (constructor <;> simp only [IntKind.min, IntKind.max, IntKind.signed, IntKind.bits, ↓reduceIte, Bool.false_eq_true] <;> omega))) | (apply EvW.ar; exact rfl; exact rfl; exact rfl) | (apply EvW.convN; exact rfl; exact UndC.eq; exact UndC.eq; (first | (refine i64_in ?_ ?_ <;> omega) | (constructor <;> simp only [IntKind.min, IntKind.max, IntKind.signed, IntKind.bits, ↓reduceIte, Bool.false_eq_true] <;> omega))) | (apply EvW.convW; exact rfl; exact UndC.eq; exact UndC.eq; exact of_decide_eq_true rfl) | (apply EvW.conv; exact rfl; exact UndC.eq; exact UndC.eq) | (apply EvW.negN; exact rfl; (first | (refine i64_in ?_ ?_ <;> omega) | (constructor <;> simp only [IntKind.min, IntKind.max, IntKind.signed, IntKind.bits, ↓reduceIte, Bool.false_eq_true] <;> omega))) | (apply EvW.neg; exact rfl) | (apply EvW.index; exact rfl; exact rfl; exact UndC.eq; omega; omega) | (apply EvW.shr; exact rfl; exact rfl; omega) | (apply EvW.shl; exact rfl; exact rfl; omega) | (apply EvW.ldStr; exact rfl; exact ScalC.eq; assumption; omega) | (apply EvW.ldStrOwn; exact rfl; exact ScalC.eq; (focus ((repeat constructor); done)); omega) | (apply EvW.lenRow; exact rfl; exact UndC.eq; assumption) | (apply EvW.lenOwn; exact rfl; exact UndC.eq; (focus ((repeat constructor); done))) | (apply EvW.idxRow; exact rfl; exact rfl; exact UndC.eq; exact SzC.eq; assumption; omega; omega) | (apply EvW.idxOwn; exact rfl; exact rfl; exact UndC.eq; exact SzC.eq; (focus ((repeat constructor); done)); omega; omega)))
      | refine WC.seq ?_ | refine WC.region ?_ | refine WL.nil ?_ | refine WE.next ?_ | refine WC.block ?_ | refine WC.skip ?_ | refine WC.exit ?_ | refine WE.pass ?_ | refine WE.hit ?_ | refine WE.miss rfl ?_ | refine WE.out ?_ | refine WC.condT rfl ?_ | refine WC.condF rfl ?_ | refine WC.ret ?_ | refine WE.passRet ?_ | refine WE.outRet ?_ | refine WL.wanted rfl rfl rfl ?_
    refine WE.ret1 rfl rfl ?_
    exact ⟨rfl, rfl⟩
end Go.Proofs.Ytamofjpadnnppaa
namespace Go.Proofs.Ytamofjpadnnppaa
open Go.RowKit Go.BK
/-- A body's frame. -/
def head (b : List UInt8) : List UInt8 := be 2 b.length ++ b
def frame (b : List UInt8) : List UInt8 := head b ++ be 4 ((crc (head b)).toNat : Int)
def sealF (b : List UInt8) : List UInt8 × Int := if 1024 < b.length then ([], 2) else (frame b, 0)
/-- How long the frame at the beginning is. -/
def cutF (l : List UInt8) : Int × Int := if l.length < 6 then (0, 1) else if numOf (l.take 2) > 1024 then (0, 2) else if (l.length : Int) < numOf (l.take 2) + 6 then (0, 1) else (numOf (l.take 2) + 6, 0)
theorem cut_spec (l : List UInt8) (w : World) (S : BSet) (hS : (sepL []).sat S w) (hl : l.length ≤ 1152921504606846976) :
    Tri Try.prog 82 #[str l] w S fun u A => u = .tuple #[i64 (cutF l).1, i64 (cutF l).2] ∧ A = [] := by
  refine Tri.enter (l := [str l]) Try.func82 rfl Try.ntmps82 rfl [(0, str l)] (subA rfl) hS ?_
  by_cases h6 : (l.length : Int) < 6
  · have hF : cutF l = (0, 1) := by unfold cutF; rw [if_pos (by omega)]
    rw [hF]
    repeat first
      | (apply WL.q; exact rfl; exact rfl; exact rfl; (first | (apply EvW.move; exact rfl) | (apply EvW.assign; exact rfl) | (apply EvW.lenS; exact rfl; exact UndC.eq) | (apply EvW.cmpT; exact rfl; exact rfl; exact rfl; omega) | (apply EvW.cmpF; exact rfl; exact rfl; exact rfl; omega) | (apply EvW.cmp; exact rfl; exact rfl; exact rfl) | (apply EvW.arN; exact rfl; exact rfl; exact rfl; refine i64_in ?_ ?_ <;> omega) | (apply EvW.ar; exact rfl; exact rfl; exact rfl)))
      | refine WC.seq ?_ | refine WC.region ?_ | refine WL.nil ?_ | refine WE.next ?_ | refine WC.block ?_ | refine WC.skip ?_ | refine WC.exit ?_ | refine WE.pass ?_ | refine WE.hit ?_ | refine WE.miss rfl ?_ | refine WE.out ?_ | refine WC.condT rfl ?_ | refine WC.condF rfl ?_ | refine WC.ret ?_ | refine WE.passRet ?_ | refine WE.outRet ?_ | refine WL.wanted rfl rfl rfl ?_
    refine WE.ret2 rfl rfl rfl ?_
    exact ⟨rfl, rfl⟩
  · have hnum : (PR.mk 0 l).num 2 = (numOf (l.take 2), PR.mk 0 (l.drop 2)) := num_good _ 2 rfl (by simp only []; omega)
    have hbd := numOf_bd (l.take 2)
    rw [show (l.take 2).length = 2 by simp; omega] at hbd
    have hF : cutF l = if numOf (l.take 2) > 1024 then (0, 2) else if (l.length : Int) < numOf (l.take 2) + 6 then (0, 1) else (numOf (l.take 2) + 6, 0) := by unfold cutF; rw [if_neg (by omega)]
    rw [hF]
    repeat first
      | (apply WL.q; exact rfl; exact rfl; exact rfl; (first | (apply EvW.move; exact rfl) | (apply EvW.assign; exact rfl) | (apply EvW.lenS; exact rfl; exact UndC.eq) | (apply EvW.cmpT; exact rfl; exact rfl; exact rfl; omega) | (apply EvW.cmpF; exact rfl; exact rfl; exact rfl; omega) | (apply EvW.cmp; exact rfl; exact rfl; exact rfl) | (apply EvW.arN; exact rfl; exact rfl; exact rfl; refine i64_in ?_ ?_ <;> omega) | (apply EvW.ar; exact rfl; exact rfl; exact rfl)))
      | refine WC.seq ?_ | refine WC.region ?_ | refine WL.nil ?_ | refine WE.next ?_ | refine WC.block ?_ | refine WC.skip ?_ | refine WC.exit ?_ | refine WE.pass ?_ | refine WE.hit ?_ | refine WE.miss rfl ?_ | refine WE.out ?_ | refine WC.condT rfl ?_ | refine WC.condF rfl ?_ | refine WC.ret ?_ | refine WE.passRet ?_ | refine WE.outRet ?_ | refine WL.wanted rfl rfl rfl ?_
    try refine WL.wanted rfl rfl rfl ?_
    apply WL.callT
    · exact rfl
    · exact rfl
    · exact fun w1 S1 hS1 hs1 ho1 => read_spec l w1 S1 hS1
    · exact fun w => Try.call71 _ w
    · (focus ((repeat constructor); done))
    rintro _ _ ⟨b, rfl, rfl⟩
    first | refine WL.app4 ?_ | refine WL.app3 ?_ | refine WL.app2 ?_ | refine WL.app1 ?_ | refine WL.app0 ?_ | skip
    try refine WL.wanted rfl rfl rfl ?_
    apply WL.callA ([.blk b #[i64 (PR.mk 0 l).e, str (PR.mk 0 l).s] 152])
    · exact rfl
    · exact rfl
    · exact fun w => Try.call73 _ w
    · (focus ((repeat constructor); done))
    · exact fun w1 S1 hS1 hs1 ho1 => rword_spec b (PR.mk 0 l) w1 S1 hS1 hl
    rintro _ _ ⟨rfl, rfl⟩
    first | refine WL.app4 ?_ | refine WL.app3 ?_ | refine WL.app2 ?_ | refine WL.app1 ?_ | refine WL.app0 ?_ | skip
    rw [hnum]
    generalize numOf (l.take 2) = N at hbd
    by_cases h1 : N > 1024
    · rw [if_pos h1]
      repeat first
        | (apply WL.q; exact rfl; exact rfl; exact rfl; (first | (apply EvW.move; exact rfl) | (apply EvW.assign; exact rfl) | (apply EvW.lenS; exact rfl; exact UndC.eq) | (apply EvW.cmpT; exact rfl; exact rfl; exact rfl; omega) | (apply EvW.cmpF; exact rfl; exact rfl; exact rfl; omega) | (apply EvW.cmp; exact rfl; exact rfl; exact rfl) | (apply EvW.arN; exact rfl; exact rfl; exact rfl; refine i64_in ?_ ?_ <;> omega) | (apply EvW.ar; exact rfl; exact rfl; exact rfl)))
        | refine WC.seq ?_ | refine WC.region ?_ | refine WL.nil ?_ | refine WE.next ?_ | refine WC.block ?_ | refine WC.skip ?_ | refine WC.exit ?_ | refine WE.pass ?_ | refine WE.hit ?_ | refine WE.miss rfl ?_ | refine WE.out ?_ | refine WC.condT rfl ?_ | refine WC.condF rfl ?_ | refine WC.ret ?_ | refine WE.passRet ?_ | refine WE.outRet ?_ | refine WL.wanted rfl rfl rfl ?_
      refine WE.bare ?_
      refine WE.ret2 rfl rfl rfl ?_
      exact ⟨rfl, rfl⟩
    · rw [if_neg h1]
      by_cases h2 : (l.length : Int) < N + 6
      · rw [if_pos h2]
        repeat first
          | (apply WL.q; exact rfl; exact rfl; exact rfl; (first | (apply EvW.move; exact rfl) | (apply EvW.assign; exact rfl) | (apply EvW.lenS; exact rfl; exact UndC.eq) | (apply EvW.cmpT; exact rfl; exact rfl; exact rfl; omega) | (apply EvW.cmpF; exact rfl; exact rfl; exact rfl; omega) | (apply EvW.cmp; exact rfl; exact rfl; exact rfl) | (apply EvW.arN; exact rfl; exact rfl; exact rfl; refine i64_in ?_ ?_ <;> omega) | (apply EvW.ar; exact rfl; exact rfl; exact rfl)))
          | refine WC.seq ?_ | refine WC.region ?_ | refine WL.nil ?_ | refine WE.next ?_ | refine WC.block ?_ | refine WC.skip ?_ | refine WC.exit ?_ | refine WE.pass ?_ | refine WE.hit ?_ | refine WE.miss rfl ?_ | refine WE.out ?_ | refine WC.condT rfl ?_ | refine WC.condF rfl ?_ | refine WC.ret ?_ | refine WE.passRet ?_ | refine WE.outRet ?_ | refine WL.wanted rfl rfl rfl ?_
        refine WE.bare ?_
        refine WE.ret2 rfl rfl rfl ?_
        exact ⟨rfl, rfl⟩
      · rw [if_neg h2]
        repeat first
          | (apply WL.q; exact rfl; exact rfl; exact rfl; (first | (apply EvW.move; exact rfl) | (apply EvW.assign; exact rfl) | (apply EvW.lenS; exact rfl; exact UndC.eq) | (apply EvW.cmpT; exact rfl; exact rfl; exact rfl; omega) | (apply EvW.cmpF; exact rfl; exact rfl; exact rfl; omega) | (apply EvW.cmp; exact rfl; exact rfl; exact rfl) | (apply EvW.arN; exact rfl; exact rfl; exact rfl; refine i64_in ?_ ?_ <;> omega) | (apply EvW.ar; exact rfl; exact rfl; exact rfl)))
          | refine WC.seq ?_ | refine WC.region ?_ | refine WL.nil ?_ | refine WE.next ?_ | refine WC.block ?_ | refine WC.skip ?_ | refine WC.exit ?_ | refine WE.pass ?_ | refine WE.hit ?_ | refine WE.miss rfl ?_ | refine WE.out ?_ | refine WC.condT rfl ?_ | refine WC.condF rfl ?_ | refine WC.ret ?_ | refine WE.passRet ?_ | refine WE.outRet ?_ | refine WL.wanted rfl rfl rfl ?_
        refine WE.bare ?_
        refine WE.ret2 rfl rfl rfl ?_
        exact ⟨rfl, rfl⟩
end Go.Proofs.Ytamofjpadnnppaa
namespace Go.Proofs.Ytamofjpadnnppaa
open Go.RowKit Go.BK
/-- What a frame says, if its sum is right. -/
def bodyF (f : List UInt8) (a : Int) : List UInt8 × Int × Int := if numOf (f.drop (f.length - 4)) ≠ (crc (f.take (f.length - 4))).toNat then ([], 0, 4) else ((f.take (f.length - 4)).drop 2, a + f.length, 0)
def nextF (l : List UInt8) (a : Int) : List UInt8 × Int × Int :=
  if a < 0 ∨ a > l.length then ([], 0, 20) else if (cutF (l.drop a.toNat)).2 ≠ 0 then ([], 0, (cutF (l.drop a.toNat)).2) else bodyF ((l.drop a.toNat).take (cutF (l.drop a.toNat)).1.toNat) a
def openF (l : List UInt8) : List UInt8 × Int := if (cutF l).2 ≠ 0 then ([], (cutF l).2) else if (cutF l).1 < l.length then ([], 3) else ((nextF l 0).1, (nextF l 0).2.2)
theorem cutF_cases (l : List UInt8) : (cutF l = (0, 1)) ∨ (cutF l = (0, 2)) ∨ ∃ k : Nat, cutF l = ((k : Int), 0) ∧ 6 ≤ k ∧ k ≤ l.length ∧ k ≤ 1030 ∧ numOf (l.take 2) = (k : Int) - 6 := by
  unfold cutF
  split
  · exact .inl rfl
  · split
    · exact .inr (.inl rfl)
    · split
      · exact .inl rfl
      · have h := numOf_bd (l.take 2)
        exact .inr (.inr ⟨(numOf (l.take 2) + 6).toNat, by rw [Int.toNat_of_nonneg (by omega)], by omega, by omega, by omega, by omega⟩)
theorem next_spec (l : List UInt8) (a : Int) (w : World) (S : BSet) (hS : (sepL []).sat S w) (hl : l.length ≤ 1152921504606846976) :
    Tri Try.prog 83 #[str l, i64 a] w S fun u A => u = .tuple #[str (nextF l a).1, i64 (nextF l a).2.1, i64 (nextF l a).2.2] ∧ A = [] := by
  refine Tri.enter (l := [str l, i64 a]) Try.func83 rfl Try.ntmps83 rfl [(0, str l), (1, i64 a)] (subA rfl) hS ?_
  by_cases ha0 : a < 0
  · have hF : nextF l a = ([], 0, 20) := by unfold nextF; rw [if_pos (.inl ha0)]
    rw [hF]
    repeat first
      | (apply WL.q; exact rfl; exact rfl; exact rfl; (first | (apply EvW.move; exact rfl) | (apply EvW.assign; exact rfl) | (apply EvW.cmpT; exact rfl; exact rfl; exact rfl; omega) | (apply EvW.pickT; exact rfl; exact rfl)))
      | refine WC.seq ?_ | refine WC.region ?_ | refine WL.nil ?_ | refine WE.next ?_ | refine WC.condT rfl ?_ | refine WC.ret ?_ | refine WE.passRet ?_ | refine WL.unwanted rfl rfl rfl rfl ?_
    refine WE.retN (l := [4, 5, 6]) rfl rfl rfl ?_
    exact ⟨rfl, rfl⟩
  · by_cases ha1 : a > l.length
    · have hF : nextF l a = ([], 0, 20) := by unfold nextF; rw [if_pos (.inr ha1)]
      rw [hF]
      repeat first
        | (apply WL.q; exact rfl; exact rfl; exact rfl; (first | (apply EvW.move; exact rfl) | (apply EvW.assign; exact rfl) | (apply EvW.lenS; exact rfl; exact UndC.eq) | (apply EvW.cmpT; exact rfl; exact rfl; exact rfl; omega) | (apply EvW.cmpF; exact rfl; exact rfl; exact rfl; omega) | (apply EvW.pickF; exact rfl; exact rfl)))
        | refine WC.seq ?_ | refine WC.region ?_ | refine WL.nil ?_ | refine WE.next ?_ | refine WC.condT rfl ?_ | refine WC.ret ?_ | refine WE.passRet ?_ | refine WL.wanted rfl rfl rfl ?_
      refine WE.retN (l := [4, 5, 6]) rfl rfl rfl ?_
      exact ⟨rfl, rfl⟩
    · have hF : nextF l a = if (cutF (l.drop a.toNat)).2 ≠ 0 then ([], 0, (cutF (l.drop a.toNat)).2) else bodyF ((l.drop a.toNat).take (cutF (l.drop a.toNat)).1.toNat) a := by
        unfold nextF; rw [if_neg (by omega)]
      rw [hF]
      have hdl : (l.drop a.toNat).length = l.length - a.toNat := by simp
      repeat first
        | (apply WL.q; exact rfl; exact rfl; exact rfl; (first | (apply EvW.move; exact rfl) | (apply EvW.assign; exact rfl) | (apply EvW.lenS; exact rfl; exact UndC.eq) | (apply EvW.cmpF; exact rfl; exact rfl; exact rfl; omega) | (apply EvW.pickF; exact rfl; exact rfl) | (apply EvW.sliceS_lo; exact rfl; exact UndC.eq; exact rfl; omega; omega)))
        | refine WC.seq ?_ | refine WC.region ?_ | refine WL.nil ?_ | refine WE.next ?_ | refine WC.skip ?_ | refine WC.condF rfl ?_ | refine WL.wanted rfl rfl rfl ?_
      try refine WL.wanted rfl rfl rfl ?_
      apply WL.callT
      · exact rfl
      · exact rfl
      · exact fun w1 S1 hS1 hs1 ho1 => cut_spec (l.drop a.toNat) w1 S1 hS1 (by omega)
      · exact fun w => Try.call82 _ w
      · (focus ((repeat constructor); done))
      rintro _ _ ⟨rfl, rfl⟩
      first | refine WL.app4 ?_ | refine WL.app3 ?_ | refine WL.app2 ?_ | refine WL.app1 ?_ | refine WL.app0 ?_ | skip
      have hcc := cutF_cases (l.drop a.toNat)
      by_cases he : (cutF (l.drop a.toNat)).2 = 0
      · rcases hcc with hc | hc | ⟨k, hc, h6, hk, _, _⟩
        · rw [hc] at he; cases he
        · rw [hc] at he; cases he
        · rw [hc]
          rw [if_neg (by simp)]
          repeat first
            | (apply WL.q; exact rfl; exact rfl; exact rfl; (first | (apply EvW.move; exact rfl) | (apply EvW.assign; exact rfl) | (apply EvW.extract; exact rfl; exact rfl) | (apply EvW.cmpF; exact rfl; exact rfl; exact rfl; omega) | (apply EvW.arN; exact rfl; exact rfl; exact rfl; refine i64_in ?_ ?_ <;> omega) | (apply EvW.sliceS; exact rfl; exact UndC.eq; exact rfl; exact rfl; omega; omega; omega)))
            | refine WC.seq ?_ | refine WC.region ?_ | refine WL.nil ?_ | refine WE.next ?_ | refine WC.skip ?_ | refine WC.condF rfl ?_
          have htk : (l.drop a.toNat).take (k : Int).toNat = (l.take (a + k).toNat).drop a.toNat := by
            rw [show (a + (k : Int)).toNat = a.toNat + k by omega, List.drop_take, Nat.add_sub_cancel_left]; rfl
          rw [htk]
          have hfl : ((l.take (a + k).toNat).drop a.toNat).length = k := by rw [← htk]; simp; omega
          generalize (l.take (a + k).toNat).drop a.toNat = f at hfl
          repeat refine WC.seq ?_
          refine WC.keep (xs := []) (by repeat constructor) ?_
          apply WC.par _ (fun c : Ch => [.blk (c 4).1 #[i64 (PR.mk 0 (f.drop ((k : Int) - 4).toNat)).e, str (PR.mk 0 (f.drop ((k : Int) - 4).toNat)).s] 152, .blk (c 4).1 #[i64 (((PR.mk 0 (f.drop ((k : Int) - 4).toNat)).num 4).2).e, str (((PR.mk 0 (f.drop ((k : Int) - 4).toNat)).num 4).2).s] 152, .blk (c 10).1 #[str (f.take ((k : Int) - 4).toNat)] 9]) [some 4, some 5, some 10] [some 5, none, none] [(4, fun x => ptr x.1 0), (10, fun x => .slice (some ⟨x.1, 0, none⟩) 1 1)] Try.mixed
          · (focus ((repeat (first | exact Restr.nil | (apply Restr.keep; exact rfl; exact rfl) | (apply Restr.drop; exact rfl))); done))
          · intro c; exact (by repeat constructor)
          · exact rfl
          · decide +kernel
          · decide +kernel
          · intro c
            (apply Par.quiet _ [false, false, false]; exact rfl; decide +kernel; exact rfl; intro R; refine ⟨_, (by repeat constructor), ?_⟩;
                 (first | (apply EvW.move; exact rfl)))
            (apply Par.quiet _ [false, false, false]; exact rfl; decide +kernel; exact rfl; intro R; refine ⟨_, (by repeat constructor), ?_⟩;
                 (first | (apply EvW.move; exact rfl)))
            (apply Par.quiet _ [false, false, false]; exact rfl; decide +kernel; exact rfl; intro R; refine ⟨_, (by repeat constructor), ?_⟩;
                 (first | (apply EvW.arN; exact rfl; exact rfl; exact rfl; refine i64_in ?_ ?_ <;> omega)))
            (apply Par.quiet _ [false, false, false]; exact rfl; decide +kernel; exact rfl; intro R; refine ⟨_, (by repeat constructor), ?_⟩;
                 (first | (apply EvW.sliceS_lo; exact rfl; exact UndC.eq; exact rfl; omega; omega)))
            apply Par.new _ [false, false, false] [true, false, false] [false, false, false]
            · exact rfl
            · exact rfl
            · decide +kernel
            · intro R
              refine ⟨_, _, _, (by repeat constructor), (by repeat constructor), (fun x => (by repeat constructor)), ?_⟩
              apply NewW.call (fun x => [.blk x.1 #[i64 (PR.mk 0 (f.drop ((k : Int) - 4).toNat)).e, str (PR.mk 0 (f.drop ((k : Int) - 4).toNat)).s] 152])
              · exact rfl
              · exact fun w1 S1 hS1 hs1 ho1 => read_spec (f.drop ((k : Int) - 4).toNat) w1 S1 hS1
              · exact fun w => Try.call71 _ w
              · (focus ((repeat constructor); done))
              · rintro _ _ ⟨b, rfl, rfl⟩; exact ⟨(b, undef), rfl, rfl⟩
              · exact fun x _ h => TakeT.st (by (focus ((repeat (first | exact TakeT.tail | apply TakeT.cons | exact Take.head | apply Take.tail | apply TakeT.drop)); done))) h
            apply Par.eff _ [true, false, false] [false, true, false] [false, false, false]
            · exact rfl
            · exact rfl
            · decide +kernel
            · intro R
              refine ⟨_, _, _, (by repeat constructor), (by repeat constructor), (by repeat constructor), ?_⟩
              apply EffW.callT
              · exact rfl
              · exact fun w1 S1 hS1 hs1 ho1 => rlong_spec _ (PR.mk 0 (f.drop ((k : Int) - 4).toNat)) w1 S1 hS1 (by simp; omega)
              · exact fun w => Try.call74 _ w
              · (focus ((repeat constructor); done))
              · exact fun _ _ h => h
              · exact fun _ h => TakeT.st (by (focus ((repeat (first | exact TakeT.tail | apply TakeT.cons | exact Take.head | apply Take.tail | apply TakeT.drop)); done))) h
            (apply Par.quiet _ [false, false, false]; exact rfl; decide +kernel; exact rfl; intro R; refine ⟨_, (by repeat constructor), ?_⟩;
                 (first | (apply EvW.move; exact rfl)))
            (apply Par.quiet _ [false, false, false]; exact rfl; decide +kernel; exact rfl; intro R; refine ⟨_, (by repeat constructor), ?_⟩;
                 (first | (apply EvW.move; exact rfl)))
            (apply Par.quiet _ [false, false, false]; exact rfl; decide +kernel; exact rfl; intro R; refine ⟨_, (by repeat constructor), ?_⟩;
                 (first | (apply EvW.arN; exact rfl; exact rfl; exact rfl; refine i64_in ?_ ?_ <;> omega)))
            (apply Par.quiet _ [false, false, false]; exact rfl; decide +kernel; exact rfl; intro R; refine ⟨_, (by repeat constructor), ?_⟩;
                 (first | (apply EvW.sliceS_hi; exact rfl; exact UndC.eq; exact rfl; omega; omega)))
            (apply Par.new _ [false, false, false] [false, false, true] [false, false, false]; exact rfl; exact rfl; decide +kernel; intro R; refine ⟨_, _, _, (by repeat constructor), (by repeat constructor), (fun x => (by repeat constructor)), ?_⟩; (apply NewW.buildSlice; exact UndC.eq; exact SzC.eq; exact ZvC.eq; exact rfl; exact rfl; exact rfl; (focus ((repeat (first | exact Flat.nil | (apply Flat.one; (first | exact rfl | assumption)) | (apply Flat.cons; exact rfl; exact rfl))); done)); exact rfl; exact rfl; exact fun _ => rfl))
            apply Par.quiet _ [false, true, true]
            · exact rfl
            · decide +kernel
            · exact rfl
            · intro R
              refine ⟨_, (by repeat constructor), ?_⟩
              apply EvW.callK ([])
              · exact rfl
              · exact fun w => Try.call89 _ w
              · (focus ((repeat constructor); done))
              · exact fun w1 S1 hS1 hs1 ho1 => sum_spec _ [f.take ((k : Int) - 4).toNat] w1 S1 hS1 ((ho1 _ _ (by repeat constructor)).blkRow rfl (fun k u h => by simpa using h) (by simp)) (by simp) (by intro p hp; simp only [List.mem_singleton] at hp; rw [hp]; simp; omega)
              · exact fun _ _ h => h
            (apply Par.quiet _ [false, true, true]; exact rfl; decide +kernel; exact rfl; intro R; refine ⟨_, (by repeat constructor), ?_⟩;
                 (first | (apply EvW.cmp; exact rfl; exact rfl; exact rfl)))
            exact Par.nil
          · repeat (first | exact AllN.nil | (apply AllN.cons; (intro c x; (repeat (first | exact IndA.nil | (apply IndA.skip; decide +kernel) | apply IndA.same))))) 
          · repeat (first | exact AllN.nil | (apply AllN.cons; (intro c x; (repeat (first | exact IndT.nil | (apply IndT.skip; decide +kernel) | apply IndT.same))))) 
          · exact fun _ => rfl
          intro c
          refine ⟨_, (by repeat constructor), ?_⟩
          apply WE.writ
          · (focus ((repeat (first | exact Writ.nil | apply Writ.some | apply Writ.none)); done))
          generalize (c 4).1 = b4
          generalize (c 10).1 = b10
          have hk4 : ((k : Int) - 4).toNat = f.length - 4 := by omega
          have hnum : (PR.mk 0 (f.drop ((k : Int) - 4).toNat)).num 4 = (numOf (f.drop (f.length - 4)), PR.mk 0 []) := by
            have hl4 : (f.drop (f.length - 4)).length = 4 := by simp; omega
            rw [hk4, num_good _ 4 rfl (by simp only []; omega)]
            simp only []
            rw [show (f.drop (f.length - 4)).take 4 = f.drop (f.length - 4) from List.take_of_length_le (by omega), show (f.drop (f.length - 4)).drop 4 = [] from List.drop_of_length_le (by omega)]
          rw [hnum, hk4, show [f.take (f.length - 4)].flatten = f.take (f.length - 4) by simp]
          by_cases hsum : numOf (f.drop (f.length - 4)) = ((crc (f.take (f.length - 4))).toNat : Int)
          · have hB : bodyF f a = ((f.take (f.length - 4)).drop 2, a + f.length, 0) := by unfold bodyF; rw [if_neg (by rw [hsum]; simp)]
            rw [hB, decide_eq_false (fun h => h hsum)]
            repeat first
              | (apply WL.q; exact rfl; exact rfl; exact rfl; (first | (apply EvW.move; exact rfl) | (apply EvW.assign; exact rfl) | (apply EvW.arN; exact rfl; exact rfl; exact rfl; refine i64_in ?_ ?_ <;> omega) | (apply EvW.sliceS; exact rfl; exact UndC.eq; exact rfl; exact rfl; omega; omega; omega)))
              | refine WC.seq ?_ | refine WC.region ?_ | refine WL.nil ?_ | refine WE.next ?_ | refine WC.skip ?_ | refine WC.condF rfl ?_ | refine WC.ret ?_
            refine WE.bare ?_
            refine WE.retN (l := [4, 5, 6]) rfl rfl rfl ?_
            refine ⟨?_, rfl⟩
            rw [← hfl]
            have e1 : ((f.length : Int) - 4).toNat = f.length - 4 := by omega
            simp only [e1]
            rfl
          · have hB : bodyF f a = ([], 0, 4) := by unfold bodyF; rw [if_pos hsum]
            rw [hB, decide_eq_true hsum]
            repeat first
              | (apply WL.q; exact rfl; exact rfl; exact rfl; (first | (apply EvW.assign; exact rfl)))
              | refine WC.seq ?_ | refine WC.region ?_ | refine WL.nil ?_ | refine WE.next ?_ | refine WC.condT rfl ?_ | refine WC.ret ?_ | refine WE.passRet ?_
            refine WE.bare ?_
            refine WE.retN (l := [4, 5, 6]) rfl rfl rfl ?_
            exact ⟨rfl, rfl⟩
      · rw [if_pos he]
        repeat first
          | (apply WL.q; exact rfl; exact rfl; exact rfl; (first | (apply EvW.move; exact rfl) | (apply EvW.assign; exact rfl) | (apply EvW.extract; exact rfl; exact rfl) | (apply EvW.cmpT; exact rfl; exact rfl; exact rfl; omega)))
          | refine WC.seq ?_ | refine WC.region ?_ | refine WL.nil ?_ | refine WE.next ?_ | refine WC.condT rfl ?_ | refine WC.ret ?_ | refine WE.passRet ?_
        refine WE.retN (l := [4, 5, 6]) rfl rfl rfl ?_
        exact ⟨rfl, rfl⟩
theorem open_spec (l : List UInt8) (w : World) (S : BSet) (hS : (sepL []).sat S w) (hl : l.length ≤ 1152921504606846976) :
    Tri Try.prog 70 #[str l] w S fun u A => u = .tuple #[str (openF l).1, i64 (openF l).2] ∧ A = [] := by
  refine Tri.enter (l := [str l]) Try.func70 rfl Try.ntmps70 rfl [(0, str l)] (subA rfl) hS ?_
  have hF : openF l = if (cutF l).2 ≠ 0 then ([], (cutF l).2) else if (cutF l).1 < l.length then ([], 3) else ((nextF l 0).1, (nextF l 0).2.2) := rfl
  rw [hF]
  repeat first
    | (apply WL.q; exact rfl; exact rfl; exact rfl; (first | (apply EvW.move; exact rfl) | (apply EvW.assign; exact rfl)))
    | refine WC.seq ?_ | refine WC.region ?_ | refine WL.nil ?_ | refine WE.next ?_
  try refine WL.wanted rfl rfl rfl ?_
  apply WL.callT
  · exact rfl
  · exact rfl
  · exact fun w1 S1 hS1 hs1 ho1 => cut_spec l w1 S1 hS1 hl
  · exact fun w => Try.call82 _ w
  · (focus ((repeat constructor); done))
  rintro _ _ ⟨rfl, rfl⟩
  first | refine WL.app4 ?_ | refine WL.app3 ?_ | refine WL.app2 ?_ | refine WL.app1 ?_ | refine WL.app0 ?_ | skip
  by_cases he : (cutF l).2 = 0
  · rw [if_neg (by simp [he])]
    by_cases hb : (cutF l).1 < l.length
    · rw [if_pos hb]
      repeat first
        | (apply WL.q; exact rfl; exact rfl; exact rfl; (first | (apply EvW.move; exact rfl) | (apply EvW.assign; exact rfl) | (apply EvW.extract; exact rfl; exact rfl) | (apply EvW.lenS; exact rfl; exact UndC.eq) | (apply EvW.cmpT; exact rfl; exact rfl; exact rfl; omega) | (apply EvW.cmpF; exact rfl; exact rfl; exact rfl; omega)))
        | refine WC.seq ?_ | refine WC.region ?_ | refine WL.nil ?_ | refine WE.next ?_ | refine WC.skip ?_ | refine WC.condT rfl ?_ | refine WC.condF rfl ?_ | refine WC.ret ?_ | refine WE.passRet ?_
      refine WE.retN (l := [2, 3]) rfl rfl rfl ?_
      exact ⟨rfl, rfl⟩
    · rw [if_neg hb]
      repeat first
        | (apply WL.q; exact rfl; exact rfl; exact rfl; (first | (apply EvW.move; exact rfl) | (apply EvW.assign; exact rfl) | (apply EvW.extract; exact rfl; exact rfl) | (apply EvW.lenS; exact rfl; exact UndC.eq) | (apply EvW.cmpF; exact rfl; exact rfl; exact rfl; omega)))
        | refine WC.seq ?_ | refine WC.region ?_ | refine WL.nil ?_ | refine WE.next ?_ | refine WC.skip ?_ | refine WC.condF rfl ?_
      try refine WL.wanted rfl rfl rfl ?_
      apply WL.callT
      · exact rfl
      · exact rfl
      · exact fun w1 S1 hS1 hs1 ho1 => next_spec l 0 w1 S1 hS1 hl
      · exact fun w => Try.call83 _ w
      · (focus ((repeat constructor); done))
      rintro _ _ ⟨rfl, rfl⟩
      first | refine WL.app4 ?_ | refine WL.app3 ?_ | refine WL.app2 ?_ | refine WL.app1 ?_ | refine WL.app0 ?_ | skip
      repeat first
        | (apply WL.q; exact rfl; exact rfl; exact rfl; (first | (apply EvW.move; exact rfl) | (apply EvW.assign; exact rfl) | (apply EvW.extract; exact rfl; exact rfl)))
        | refine WC.seq ?_ | refine WC.region ?_ | refine WL.nil ?_ | refine WE.next ?_ | refine WC.ret ?_
      refine WE.retN (l := [2, 3]) rfl rfl rfl ?_
      exact ⟨rfl, rfl⟩
  · rw [if_pos he]
    repeat first
      | (apply WL.q; exact rfl; exact rfl; exact rfl; (first | (apply EvW.move; exact rfl) | (apply EvW.assign; exact rfl) | (apply EvW.extract; exact rfl; exact rfl) | (apply EvW.cmpT; exact rfl; exact rfl; exact rfl; omega)))
      | refine WC.seq ?_ | refine WC.region ?_ | refine WL.nil ?_ | refine WE.next ?_ | refine WC.condT rfl ?_ | refine WC.ret ?_ | refine WE.passRet ?_
    refine WE.retN (l := [2, 3]) rfl rfl rfl ?_
    exact ⟨rfl, rfl⟩
end Go.Proofs.Ytamofjpadnnppaa
namespace Go.Proofs.Ytamofjpadnnppaa
open Go.RowKit Go.BK
theorem head_length (b : List UInt8) : (head b).length = b.length + 2 := by simp [head, be_length]; omega
theorem frame_length (b : List UInt8) : (frame b).length = b.length + 6 := by simp [frame, head_length, be_length]
theorem numOf_len (b : List UInt8) (h : b.length ≤ 1024) : numOf (be 2 (b.length : Int)) = b.length := numOf_be2 _ (by omega) (by omega)
theorem numOf_crc (x : BitVec 32) : numOf (be 4 (x.toNat : Int)) = x.toNat := numOf_be4 _ (by omega) (by have := x.isLt; omega)
theorem frame_take2 (b t : List UInt8) : (frame b ++ t).take 2 = be 2 (b.length : Int) := by
  unfold frame head
  rw [List.append_assoc, List.append_assoc, List.take_left' (be_length _ _)]
theorem cutF_frame (b t : List UInt8) (h : b.length ≤ 1024) : cutF (frame b ++ t) = ((b.length : Int) + 6, 0) := by
  have hl := frame_length b
  unfold cutF
  rw [frame_take2, numOf_len b h, if_neg (by rw [List.length_append]; omega), if_neg (by omega), if_neg (by rw [List.length_append]; omega)]
theorem bodyF_frame (b : List UInt8) (a : Int) : bodyF (frame b) a = (b, a + b.length + 6, 0) := by
  have hl := frame_length b
  have hh := head_length b
  have e1 : (frame b).take ((frame b).length - 4) = head b := by unfold frame; rw [List.take_left' (by rw [List.length_append, be_length]; omega)]
  have e2 : (frame b).drop ((frame b).length - 4) = be 4 ((crc (head b)).toNat : Int) := by unfold frame; rw [List.drop_left' (by rw [List.length_append, be_length]; omega)]
  have e3 : (head b).drop 2 = b := by unfold head; rw [List.drop_left' (be_length _ _)]
  unfold bodyF
  rw [e1, e2, numOf_crc, if_neg (by simp), e3, hl]
  simp only [Prod.mk.injEq, true_and, and_true]
  omega
theorem nextF_frame (p b t : List UInt8) (h : b.length ≤ 1024) : nextF (p ++ (frame b ++ t)) p.length = (b, (p.length : Int) + b.length + 6, 0) := by
  unfold nextF
  rw [if_neg (by rw [List.length_append]; omega), show ((p.length : Nat) : Int).toNat = p.length from rfl, List.drop_left' rfl, cutF_frame b t h]
  rw [if_neg (by simp)]
  simp only []
  rw [List.take_left' (by rw [frame_length]; omega), bodyF_frame]
theorem openF_frame (b : List UInt8) (h : b.length ≤ 1024) : openF (frame b) = (b, 0) := by
  have hc := cutF_frame b [] h
  have hn := nextF_frame [] b [] h
  rw [List.append_nil] at hc hn
  rw [List.nil_append] at hn
  unfold openF
  rw [hc, if_neg (by simp), if_neg (by rw [frame_length]; simp)]
  rw [show (([] : List UInt8).length : Int) = 0 from rfl] at hn
  rw [hn]
end Go.Proofs.Ytamofjpadnnppaa
namespace Go.Proofs.Ytamofjpadnnppaa
open Go.RowKit Go.BK
theorem of64 (n : Nat) : BitVec.ofInt IntKind.i64.bits (n : Int) = BitVec.ofNat 64 n := by
  show BitVec.ofInt 64 (n : Int) = _
  rw [BitVec.ofInt_natCast]
theorem xor64 (a b : Nat) (ha : a < 4294967296) (hb : b < 4294967296) : IntKind.i64.wrap ↑(BitVec.ofInt IntKind.i64.bits (a : Int) ^^^ BitVec.ofInt IntKind.i64.bits (b : Int)).toNat = ((a ^^^ b : Nat) : Int) := by
  rw [of64, of64]
  show IntKind.i64.wrap ((BitVec.ofNat 64 a ^^^ BitVec.ofNat 64 b).toNat : Int) = _
  rw [BitVec.toNat_xor, BitVec.toNat_ofNat, BitVec.toNat_ofNat, Nat.mod_eq_of_lt (by omega), Nat.mod_eq_of_lt (by omega)]
  have : a ^^^ b < 2 ^ 32 := Nat.xor_lt_two_pow ha hb
  exact wrap_in IntKind.i64 (i64_in (by omega) (by omega))
theorem rsum_in (x : BitVec 32) (c : UInt8) : IntKind.i64.wrap ↑(BitVec.ofInt IntKind.i64.bits (x.toNat : Int) ^^^ BitVec.ofInt IntKind.i64.bits ((c.toNat : Int) * 16777216)).toNat = ((x ^^^ crcU c <<< 24).toNat : Int) := by
  have hc := c.toNat_lt
  have hx := x.isLt
  rw [show (c.toNat : Int) * 16777216 = ((c.toNat * 16777216 : Nat) : Int) by omega, xor64 _ _ hx (by omega), BitVec.toNat_xor, BitVec.toNat_shiftLeft, crcU_nat, Nat.shiftLeft_eq, Nat.mod_eq_of_lt (by omega)]
theorem rsum_lo (y : BitVec 32) (h : ¬ (y.toNat : Int) * 2 ≥ 4294967296) : (y.toNat : Int) * 2 = ((crcT y).toNat : Int) := by
  have hm : y.msb = false := by rw [BitVec.msb_eq_decide]; apply decide_eq_false; omega
  rw [crcT_eq, hm, if_neg (by decide), BitVec.xor_zero, BitVec.toNat_shiftLeft, Nat.shiftLeft_eq, Nat.mod_eq_of_lt (by omega)]
  omega
theorem rsum_hi (y : BitVec 32) (h : (y.toNat : Int) * 2 ≥ 4294967296) : IntKind.i64.wrap ↑(BitVec.ofInt IntKind.i64.bits ((y.toNat : Int) * 2 - 4294967296) ^^^ BitVec.ofInt IntKind.i64.bits 79764919).toNat = ((crcT y).toNat : Int) := by
  have hy := y.isLt
  have hm : y.msb = true := by rw [BitVec.msb_eq_decide]; apply decide_eq_true; omega
  rw [show (y.toNat : Int) * 2 - 4294967296 = ((y.toNat * 2 - 4294967296 : Nat) : Int) by omega, show (79764919 : Int) = ((79764919 : Nat) : Int) from rfl, xor64 _ _ (by omega) (by omega)]
  rw [crcT_eq, hm, if_pos rfl, BitVec.toNat_xor, BitVec.toNat_shiftLeft, Nat.shiftLeft_eq]
  rw [show y.toNat * 2 ^ 1 % 2 ^ 32 = y.toNat * 2 - 4294967296 by omega]
  rfl
theorem rsum_spec (l : List UInt8) (w : World) (S : BSet) (hS : (sepL []).sat S w) (hl : l.length ≤ 1152921504606846976) :
    Tri Try.prog 67 #[str l] w S fun u A => u = i64 ((crc l).toNat : Int) ∧ A = [] := by
  refine Tri.enter (l := [str l]) Try.func67 rfl Try.ntmps67 rfl [(0, str l)] (subA rfl) hS ?_
  repeat first
    | (apply WL.q; exact rfl; exact rfl; exact rfl; (first | (apply EvW.assign; exact rfl)))
    | refine WC.seq ?_ | refine WC.region ?_ | refine WL.nil ?_ | refine WE.next ?_ | refine WC.block ?_
  refine WC.loopK (σ := Nat) [0] (fun s => [(4, i64 s), (3, i64 ((crc (l.take s)).toNat : Int))]) (fun s => []) (fun s => s ≤ l.length) (fun s => l.length - s) 0 (by (focus ((repeat (first | exact Pick.nil | (apply Pick.cons; exact rfl))); done))) (by (focus ((repeat (first | exact trivial | (refine ⟨rfl, ?_⟩))); done))) (fun _ h => h.keep (by repeat constructor)) (Nat.zero_le _) (fun s hs => ?_)
  obtain ⟨i, rfl⟩ : ∃ q, q = s := ⟨s, rfl⟩
  simp only [List.cons_append, List.nil_append] at hs ⊢
  by_cases hlt : (i : Int) < l.length
  · have hsn := take_snoc l i (by omega)
    have hcb := (l.getD ((i : Nat) : Int).toNat 0).toNat_lt
    repeat first
      | (apply WL.q; exact rfl; exact rfl; exact rfl; (first | (apply EvW.move; exact rfl) | (apply EvW.assign; exact rfl) | (apply EvW.lenS; exact rfl; exact UndC.eq) | (apply EvW.cmpT; exact rfl; exact rfl; exact rfl; omega) | (apply EvW.arN; exact rfl; exact rfl; exact rfl; refine i64_in ?_ ?_ <;> omega) | (apply EvW.ar; exact rfl; exact rfl; exact rfl) | (apply EvW.convN; exact rfl; exact UndC.eq; exact UndC.eq; refine i64_in ?_ ?_ <;> omega) | (apply EvW.index; exact rfl; exact rfl; exact UndC.eq; omega; omega)))
      | refine WC.seq ?_ | refine WC.region ?_ | refine WL.nil ?_ | refine WE.next ?_ | refine WC.block ?_ | refine WC.skip ?_ | refine WC.condT rfl ?_
    rw [rsum_in]
    refine WC.loopK (σ := Nat) [0, 4] (fun s => [(5, i64 s), (3, i64 ((crcN s (crc (l.take i) ^^^ crcU (l.getD i 0) <<< 24)).toNat : Int))]) (fun s => []) (fun s => s ≤ 8) (fun s => 8 - s) 0 (by (focus ((repeat (first | exact Pick.nil | (apply Pick.cons; exact rfl))); done))) (by (focus ((repeat (first | exact trivial | (refine ⟨rfl, ?_⟩))); done))) (fun _ h => h.keep (by repeat constructor)) (Nat.zero_le _) (fun s hs => ?_)
    obtain ⟨k, rfl⟩ : ∃ q, q = s := ⟨s, rfl⟩
    simp only [List.cons_append, List.nil_append] at hs ⊢
    by_cases hk : (k : Int) < 8
    · generalize hy : crcN k (crc (l.take i) ^^^ crcU (l.getD i 0) <<< 24) = y
      have hy2 := y.isLt
      have hsu : crcN (k + 1) (crc (l.take i) ^^^ crcU (l.getD i 0) <<< 24) = crcT y := by rw [crcN_succ, hy]
      by_cases h2 : (y.toNat : Int) * 2 ≥ 4294967296
      · repeat first
          | (apply WL.q; exact rfl; exact rfl; exact rfl; (first | (apply EvW.move; exact rfl) | (apply EvW.assign; exact rfl) | (apply EvW.cmpT; exact rfl; exact rfl; exact rfl; omega) | (apply EvW.arN; exact rfl; exact rfl; exact rfl; refine i64_in ?_ ?_ <;> omega) | (apply EvW.ar; exact rfl; exact rfl; exact rfl)))
          | refine WC.seq ?_ | refine WC.region ?_ | refine WL.nil ?_ | refine WE.next ?_ | refine WC.block ?_ | refine WC.skip ?_ | refine WE.out ?_ | refine WC.condT rfl ?_
        rw [rsum_hi y h2, ← hsu]
        exact WE.again (s := k) (k + 1) (by omega) (by (focus ((repeat (first | exact trivial | (refine ⟨rfl, ?_⟩))); done))) (fun _ h => (by (try simp only []); exact h.keep (by repeat constructor))) (by (try simp only []); omega)
      · repeat first
          | (apply WL.q; exact rfl; exact rfl; exact rfl; (first | (apply EvW.move; exact rfl) | (apply EvW.assign; exact rfl) | (apply EvW.cmpT; exact rfl; exact rfl; exact rfl; omega) | (apply EvW.cmpF; exact rfl; exact rfl; exact rfl; omega) | (apply EvW.arN; exact rfl; exact rfl; exact rfl; refine i64_in ?_ ?_ <;> omega)))
          | refine WC.seq ?_ | refine WC.region ?_ | refine WL.nil ?_ | refine WE.next ?_ | refine WC.block ?_ | refine WC.skip ?_ | refine WE.out ?_ | refine WC.condT rfl ?_ | refine WC.condF rfl ?_
        rw [rsum_lo y h2, ← hsu]
        exact WE.again (s := k) (k + 1) (by omega) (by (focus ((repeat (first | exact trivial | (refine ⟨rfl, ?_⟩))); done))) (fun _ h => (by (try simp only []); exact h.keep (by repeat constructor))) (by (try simp only []); omega)
    · obtain rfl : k = 8 := by omega
      have hcr : crcN 8 (crc (l.take i) ^^^ crcU (l.getD i 0) <<< 24) = crc (l.take (i + 1)) := by rw [hsn]; unfold crc; rw [crcL_snoc]
      rw [hcr]
      repeat first
        | (apply WL.q; exact rfl; exact rfl; exact rfl; (first | (apply EvW.move; exact rfl) | (apply EvW.assign; exact rfl) | (apply EvW.cmpF; exact rfl; exact rfl; exact rfl; omega) | (apply EvW.arN; exact rfl; exact rfl; exact rfl; refine i64_in ?_ ?_ <;> omega)))
        | refine WC.seq ?_ | refine WC.region ?_ | refine WL.nil ?_ | refine WE.next ?_ | refine WC.exit ?_ | refine WE.pass ?_ | refine WE.hit ?_ | refine WE.out ?_ | refine WC.condF rfl ?_
      exact WE.again (s := i) (i + 1) (by omega) (by (focus ((repeat (first | exact trivial | (refine ⟨rfl, ?_⟩))); done))) (fun _ h => (by (try simp only []); exact h.keep (by repeat constructor))) (by (try simp only []); omega)
  · obtain rfl : i = l.length := by omega
    rw [List.take_length]
    repeat first
      | (apply WL.q; exact rfl; exact rfl; exact rfl; (first | (apply EvW.move; exact rfl) | (apply EvW.assign; exact rfl) | (apply EvW.lenS; exact rfl; exact UndC.eq) | (apply EvW.cmpF; exact rfl; exact rfl; exact rfl; omega)))
      | refine WC.seq ?_ | refine WC.region ?_ | refine WL.nil ?_ | refine WE.next ?_ | refine WC.exit ?_ | refine WE.pass ?_ | refine WE.hit ?_ | refine WC.condF rfl ?_ | refine WC.ret ?_
    refine WE.ret1 rfl rfl ?_
    exact ⟨rfl, rfl⟩
theorem rbig_spec (x : Int) (k : Nat) (w : World) (S : BSet) (hS : (sepL []).sat S w) (hk1 : 1 ≤ k) (hk : k ≤ 4) (h0 : 0 ≤ x) (h1 : x ≤ 9223372036854775807) :
    Tri Try.prog 66 #[i64 x, i64 k] w S fun u A => u = str (be k x) ∧ A = [] := by
  refine Tri.enter (l := [i64 x, i64 k]) Try.func66 rfl Try.ntmps66 rfl [(0, i64 x), (1, i64 k)] (subA rfl) hS ?_
  repeat first
    | (apply WL.q; exact rfl; exact rfl; exact rfl; (first | (apply EvW.move; exact rfl) | (apply EvW.assign; exact rfl)))
    | refine WC.seq ?_ | refine WC.region ?_ | refine WL.nil ?_ | refine WE.next ?_
  try refine WL.wanted rfl rfl rfl ?_
  (apply WL.make1; exact rfl; exact rfl; exact rfl; exact UndC.eq; exact SzC.eq; exact ByC.eq; exact ZvC.eq; exact rfl; omega; omega)
  · (simp only [Int.toNat_natCast]; omega)
  intro v8
  rw [show List.replicate ((k : Nat) : Int).toNat (Value.int .u8 0) = (part k x 0).map byt by rw [part_zero, List.map_replicate]; rfl, show ((k : Nat) : Int).toNat = k from rfl]
  repeat first
    | (apply WL.q; exact rfl; exact rfl; exact rfl; (first | (apply EvW.move; exact rfl) | (apply EvW.assign; exact rfl) | (apply EvW.arN; exact rfl; exact rfl; exact rfl; (first | (refine i64_in ?_ ?_ <;> omega) | (constructor <;> simp only [IntKind.min, IntKind.max, IntKind.signed, IntKind.bits, ↓reduceIte, Bool.false_eq_true] <;> omega)))))
    | refine WC.seq ?_ | refine WC.region ?_ | refine WL.nil ?_ | refine WE.next ?_ | refine WC.block ?_
  refine WC.loopK (σ := Nat × Int × Int) [5] (fun s => [(6, i64 s.2.1), (0, i64 s.2.2)]) (fun s => [.own 5 1 v8 k ((part k x s.1).map byt)]) (fun s => s.1 ≤ k ∧ s.2.1 = k - 1 - s.1 ∧ s.2.2 = x / 256 ^ s.1 ∧ 0 ≤ s.2.2 ∧ s.2.2 ≤ 9223372036854775807) (fun s => k - s.1) (0, k - 1, x) (by (focus ((repeat (first | exact Pick.nil | (apply Pick.cons; exact rfl))); done))) (by (focus ((repeat (first | exact trivial | (refine ⟨rfl, ?_⟩))); done))) (fun _ h => h.keep (by repeat constructor)) ⟨Nat.zero_le _, by simp, by simp, h0, h1⟩ (fun s hs => ?_)
  obtain ⟨j, t, y⟩ := s
  simp only [List.cons_append, List.nil_append] at hs ⊢
  obtain ⟨hj, ht, hy, hy0, hy1⟩ := hs
  by_cases hlt2 : 0 ≤ t
  · have hpl := part_length k x j hj
    repeat first
      | (apply WL.q; exact rfl; exact rfl; exact rfl; (first | (apply EvW.move; exact rfl) | (apply EvW.cmpT; exact rfl; exact rfl; exact rfl; omega) | (apply EvW.convN; exact rfl; exact UndC.eq; exact UndC.eq; (first | (refine i64_in ?_ ?_ <;> omega) | (constructor <;> simp only [IntKind.min, IntKind.max, IntKind.signed, IntKind.bits, ↓reduceIte, Bool.false_eq_true] <;> omega))) | (apply EvW.idxOwn; exact rfl; exact rfl; exact UndC.eq; exact SzC.eq; (focus ((repeat constructor); done)); omega; omega) | (apply EvW.remP; exact rfl; exact rfl; omega; omega)))
      | refine WC.seq ?_ | refine WC.region ?_ | refine WL.nil ?_ | refine WE.next ?_ | refine WC.block ?_ | refine WC.skip ?_ | refine WC.condT rfl ?_
    have htn : t.toNat * 1 + 0 = k - 1 - j := by omega
    have hset : ((part k x j).map byt).set (k - 1 - j) (.int .u8 (y % 256)) = (part k x (j + 1)).map byt := by
      rw [← byt_mod, ← List.map_set, hy, part_set k x j (by omega)]
    have hdiv : y / 256 = x / 256 ^ (j + 1) := by
      rw [hy, Int.pow_succ, Int.ediv_ediv_of_nonneg (by have := pow256 j (by omega); omega)]
    have hy2 : 0 ≤ y / 256 ∧ y / 256 ≤ 9223372036854775807 := by omega
    (apply WL.stOwn; exact rfl; exact rfl; exact rfl; exact SzC.eq; exact rfl; exact rfl; (focus ((repeat constructor); done)))
    · rw [List.length_map, hpl, List.length_singleton]; omega
    · rw [over_one (by rw [List.length_map, hpl]; omega), htn, hset]; exact .head
    repeat first
      | (apply WL.q; exact rfl; exact rfl; exact rfl; (first | (apply EvW.move; exact rfl) | (apply EvW.assign; exact rfl) | (apply EvW.arN; exact rfl; exact rfl; exact rfl; (first | (refine i64_in ?_ ?_ <;> omega) | (constructor <;> simp only [IntKind.min, IntKind.max, IntKind.signed, IntKind.bits, ↓reduceIte, Bool.false_eq_true] <;> omega))) | (apply EvW.quoP; exact rfl; exact rfl; omega; omega; (first | omega | exact Int.le_trans (by omega) (of_decide_eq_true rfl : (9223372036854775807 : Int) ≤ _) | (simp only [IntKind.max, IntKind.signed, IntKind.bits, ↓reduceIte, Bool.false_eq_true]; omega)))))
      | refine WC.region ?_ | refine WL.nil ?_ | refine WE.next ?_ | refine WE.out ?_
    exact WE.again (s := (j, t, y)) ((j + 1, t - 1, y / 256)) ⟨by simp only []; omega, by simp only []; omega, hdiv, hy2.1, hy2.2⟩ (by (focus ((repeat (first | exact trivial | (refine ⟨rfl, ?_⟩))); done))) (fun _ h => (by (try simp only []); exact h.keep (by repeat constructor))) (by (try simp only []); omega)
  · obtain rfl : j = k := by omega
    rw [part_all]
    repeat first
      | (apply WL.q; exact rfl; exact rfl; exact rfl; (first | (apply EvW.move; exact rfl) | (apply EvW.assign; exact rfl) | (apply EvW.cmpF; exact rfl; exact rfl; exact rfl; omega) | (apply EvW.strOwn; exact rfl; exact UndC.eq; exact UndC.eq; exact UndC.eq; (focus ((repeat constructor); done)))))
      | refine WC.seq ?_ | refine WC.region ?_ | refine WL.nil ?_ | refine WE.next ?_ | refine WC.exit ?_ | refine WE.pass ?_ | refine WE.hit ?_ | refine WC.condF rfl ?_ | refine WC.ret ?_
    refine WE.bare ?_
    refine WE.ret1 rfl rfl ?_
    exact ⟨rfl, rfl⟩
theorem rseal_spec (b : List UInt8) (w : World) (S : BSet) (hS : (sepL []).sat S w) (hl : b.length ≤ 1152921504606846976) :
    Tri Try.prog 45 #[str b] w S fun u A => u = .tuple #[str (sealF b).1, i64 (sealF b).2] ∧ A = [] := by
  refine Tri.enter (l := [str b]) Try.func45 rfl Try.ntmps45 rfl [(0, str b)] (subA rfl) hS ?_
  by_cases hlong : (b.length : Int) > 1024
  · have hF : sealF b = ([], 2) := by unfold sealF; rw [if_pos (by omega)]
    rw [hF]
    repeat first
      | (apply WL.q; exact rfl; exact rfl; exact rfl; (first | (apply EvW.move; exact rfl) | (apply EvW.assign; exact rfl) | (apply EvW.lenS; exact rfl; exact UndC.eq) | (apply EvW.cmpT; exact rfl; exact rfl; exact rfl; omega)))
      | refine WC.seq ?_ | refine WC.region ?_ | refine WL.nil ?_ | refine WE.next ?_ | refine WC.condT rfl ?_ | refine WC.ret ?_ | refine WE.passRet ?_
    refine WE.retN (l := [2, 3]) rfl rfl rfl ?_
    exact ⟨rfl, rfl⟩
  · have hF : sealF b = (frame b, 0) := by unfold sealF; rw [if_neg (by omega)]
    have hhl := head_length b
    have hbl := be_length 2 (b.length : Int)
    have hcl := be_length 4 ((crc (head b)).toNat : Int)
    have hcb := (crc (head b)).isLt
    rw [hF]
    repeat first
      | (apply WL.q; exact rfl; exact rfl; exact rfl; (first | (apply EvW.move; exact rfl) | (apply EvW.assign; exact rfl) | (apply EvW.lenS; exact rfl; exact UndC.eq) | (apply EvW.cmpF; exact rfl; exact rfl; exact rfl; omega)))
      | refine WC.seq ?_ | refine WC.region ?_ | refine WL.nil ?_ | refine WE.next ?_ | refine WC.skip ?_ | refine WC.condF rfl ?_
    try refine WL.wanted rfl rfl rfl ?_
    apply WL.callT
    · exact rfl
    · exact rfl
    · exact fun w1 S1 hS1 hs1 ho1 => rbig_spec b.length 2 w1 S1 hS1 (by decide) (by decide) (by omega) (by omega)
    · exact fun w => Try.call66 _ w
    · (focus ((repeat constructor); done))
    rintro _ _ ⟨rfl, rfl⟩
    first | refine WL.app4 ?_ | refine WL.app3 ?_ | refine WL.app2 ?_ | refine WL.app1 ?_ | refine WL.app0 ?_ | skip
    repeat first
      | (apply WL.q; exact rfl; exact rfl; exact rfl; (first | (apply EvW.move; exact rfl) | (apply EvW.assign; exact rfl) | (apply EvW.sadd; exact rfl; exact rfl; (first | omega | (simp only [List.length_append, List.length_cons, List.length_nil]; omega)))))
      | refine WC.seq ?_ | refine WC.region ?_ | refine WL.nil ?_ | refine WE.next ?_
    rw [show be 2 (b.length : Int) ++ b = head b from rfl]
    try refine WL.wanted rfl rfl rfl ?_
    apply WL.callT
    · exact rfl
    · exact rfl
    · exact fun w1 S1 hS1 hs1 ho1 => rsum_spec (head b) w1 S1 hS1 (by omega)
    · exact fun w => Try.call67 _ w
    · (focus ((repeat constructor); done))
    rintro _ _ ⟨rfl, rfl⟩
    first | refine WL.app4 ?_ | refine WL.app3 ?_ | refine WL.app2 ?_ | refine WL.app1 ?_ | refine WL.app0 ?_ | skip
    skip
    try refine WL.wanted rfl rfl rfl ?_
    apply WL.callT
    · exact rfl
    · exact rfl
    · exact fun w1 S1 hS1 hs1 ho1 => rbig_spec ((crc (head b)).toNat : Int) 4 w1 S1 hS1 (by decide) (by decide) (by omega) (by omega)
    · exact fun w => Try.call66 _ w
    · (focus ((repeat constructor); done))
    rintro _ _ ⟨rfl, rfl⟩
    first | refine WL.app4 ?_ | refine WL.app3 ?_ | refine WL.app2 ?_ | refine WL.app1 ?_ | refine WL.app0 ?_ | skip
    repeat first
      | (apply WL.q; exact rfl; exact rfl; exact rfl; (first | (apply EvW.assign; exact rfl) | (apply EvW.sadd; exact rfl; exact rfl; (first | omega | (simp only [List.length_append, List.length_cons, List.length_nil]; omega)))))
      | refine WL.nil ?_ | refine WE.next ?_ | refine WC.ret ?_
    refine WE.retN (l := [2, 3]) rfl rfl rfl ?_
    exact ⟨rfl, rfl⟩
end Go.Proofs.Ytamofjpadnnppaa
namespace Go.Proofs.Ytamofjpadnnppaa
open Go.RowKit Go.BK
theorem sealF_ok (b : List UInt8) (h : b.length ≤ 1024) : sealF b = (frame b, 0) := by unfold sealF; rw [if_neg (by omega)]
end Go.Proofs.Ytamofjpadnnppaa
namespace Go.Proofs.Ytamofjpadnnppaa
open Go.RowKit Go.BK
/-- What a telegram says: its peer, its number, its stamp, its payload. -/
structure Said where
  p : Int
  n : Int
  s : Int
  t : List UInt8
def Said.none : Said := ⟨0, 0, 0, []⟩
theorem lfits_num (k : Nat) (m : PW) (x : Int) (h : ∀ r, m.fits r) : ∀ r, (m.num k x).fits r := fun _ => (h _).num
theorem seven_fits (r : Nat) : (PW.init 7).fits r := ⟨by decide, by decide, .inl ⟨by decide, by decide⟩⟩
def tM (p n s : Int) : PW := PW.num 4 (PW.num 2 (PW.num 1 (PW.init 7) p) n) s
def makeF (x : Said) : List UInt8 × Int := if (tM x.p x.n x.s).e ≠ 0 then ([], (tM x.p x.n x.s).e) else if (x.t.length : Int) > 1000 then ([], 2) else (frame ((tM x.p x.n x.s).out ++ x.t), 0)
def r1 (b : List UInt8) : Int × PR := (PR.mk 0 b).num 1
def r2 (b : List UInt8) : Int × PR := (r1 b).2.num 2
def r3 (b : List UInt8) : Int × PR := (r2 b).2.num 4
def readF (l : List UInt8) : Said × Int := if (openF l).2 ≠ 0 then (.none, (openF l).2) else if ((openF l).1.length : Int) < 7 then (.none, 3) else if ((openF l).1.length : Int) > 1007 then (.none, 2) else (⟨(r1 (openF l).1).1, (r2 (openF l).1).1, (r3 (openF l).1).1, (openF l).1.drop 7⟩, 0)
theorem r1_s (l : List UInt8) : (r1 l).2.s.length ≤ l.length ∧ ((r1 l).2.e = 0 ∨ (r1 l).2.e = 1) := ⟨PR.take_s _ _ _, PR.take_e _ _ _ (.inl rfl)⟩
theorem r2_s (l : List UInt8) : (r2 l).2.s.length ≤ l.length ∧ ((r2 l).2.e = 0 ∨ (r2 l).2.e = 1) := ⟨Nat.le_trans (PR.take_s _ _ _) (r1_s l).1, PR.take_e _ _ _ (r1_s l).2⟩
theorem lput_out (m : PW) (b : List UInt8) : (m.put b).out.length ≤ m.out.length + b.length := by
  unfold PW.put
  split
  · simp only [PW.note]; omega
  · split
    · simp only [PW.add, List.length_append]; omega
    · omega
theorem lnum_out (k : Nat) (m : PW) (x : Int) : (m.num k x).out.length ≤ m.out.length + k := by
  unfold PW.num
  have h := lput_out (if x < 0 ∨ x.fdiv (2 ^ (8 * k)) ≠ 0 then m.note 32 else m) (be k x)
  rw [be_length] at h
  split at h <;> rename_i hc
  · rw [if_pos hc]; exact h
  · rw [if_neg hc]; exact h
theorem tM_out (p n s : Int) : (tM p n s).out.length ≤ 7 := by
  have h1 := lnum_out 1 (PW.init 7) p
  have h2 := lnum_out 2 (PW.num 1 (PW.init 7) p) n
  have h3 := lnum_out 4 (PW.num 2 (PW.num 1 (PW.init 7) p) n) s
  have h0 : (PW.init 7).out.length = 0 := rfl
  show (PW.num 4 (PW.num 2 (PW.num 1 (PW.init 7) p) n) s).out.length ≤ 7
  omega
theorem rmake_spec (x : Said) (w : World) (S : BSet) (hS : (sepL []).sat S w) (ht : x.t.length ≤ 140737488355000) (h1 : x.p ≤ 9223372036854775807) (h2 : x.n ≤ 9223372036854775807) (h3 : x.s ≤ 9223372036854775807) :
    Tri Try.prog 14 #[i64 (x).p, i64 (x).n, i64 (x).s, str (x).t] w S fun u A => u = .tuple #[str (makeF x).1, i64 (makeF x).2] ∧ A = [] := by
  refine Tri.enter (l := [i64 (x).p, i64 (x).n, i64 (x).s, str (x).t]) Try.func14 rfl Try.ntmps14 rfl [(0, i64 (x).p), (1, i64 (x).n), (2, i64 (x).s), (3, str (x).t)] (subA rfl) hS ?_
  have f1 := lfits_num 1 (PW.init 7) x.p seven_fits
  have f2 := lfits_num 2 _ x.n f1
  have hM : PW.num 4 (PW.num 2 (PW.num 1 (PW.init 7) x.p) x.n) x.s = tM x.p x.n x.s := rfl
  have ho := tM_out x.p x.n x.s
  repeat first
    | (apply WL.q; exact rfl; exact rfl; exact rfl; (first | (apply EvW.assign; exact rfl)))
    | refine WC.seq ?_ | refine WC.region ?_ | refine WL.nil ?_ | refine WE.next ?_
  try refine WL.wanted rfl rfl rfl ?_
  apply WL.callA ([])
  · exact rfl
  · exact rfl
  · exact fun w => Try.call42 _ w
  · (focus ((repeat constructor); done))
  · exact fun w1 S1 hS1 hs1 ho1 => rnew_spec 7 w1 S1 hS1
  rintro _ _ ⟨b, rfl, rfl⟩
  first | refine WL.app4 ?_ | refine WL.app3 ?_ | refine WL.app2 ?_ | refine WL.app1 ?_ | refine WL.app0 ?_ | skip
  repeat first
    | (apply WL.q; exact rfl; exact rfl; exact rfl; (first | (apply EvW.move; exact rfl) | (apply EvW.assign; exact rfl)))
    | refine WC.seq ?_ | refine WC.region ?_ | refine WL.nil ?_ | refine WE.next ?_
  try refine WL.wanted rfl rfl rfl ?_
  apply WL.callA ([.own 5 1 (Value.slice none 0 0) (PW.init 7).out.length ((PW.init 7).out.map byt), .blk b #[Value.slice none 0 0, i64 (PW.init 7).lim, i64 (PW.init 7).e] 130])
  · exact rfl
  · exact rfl
  · exact fun w => Try.call43 _ w
  · (focus ((repeat constructor); done))
  · exact fun w1 S1 hS1 hs1 ho1 => rnumw_spec b (Value.slice none 0 0) (PW.init 7) x.p 1 (by decide) (by decide) w1 S1 hS1 (seven_fits _) h1
  rintro _ _ ⟨rfl, v1, rfl⟩
  first | refine WL.app4 ?_ | refine WL.app3 ?_ | refine WL.app2 ?_ | refine WL.app1 ?_ | refine WL.app0 ?_ | skip
  generalize PW.num 1 (PW.init 7) x.p = M1 at f1 f2 hM
  repeat first
    | (apply WL.q; exact rfl; exact rfl; exact rfl; (first | (apply EvW.move; exact rfl)))
    | refine WC.seq ?_ | refine WC.region ?_ | refine WL.nil ?_ | refine WE.next ?_
  try refine WL.wanted rfl rfl rfl ?_
  apply WL.callA ([.own 5 1 (v1) (M1).out.length ((M1).out.map byt), .blk b #[v1, i64 (M1).lim, i64 (M1).e] 130])
  · exact rfl
  · exact rfl
  · exact fun w => Try.call43 _ w
  · (focus ((repeat constructor); done))
  · exact fun w1 S1 hS1 hs1 ho1 => rnumw_spec b v1 M1 x.n 2 (by decide) (by decide) w1 S1 hS1 (f1 _) h2
  rintro _ _ ⟨rfl, v2, rfl⟩
  first | refine WL.app4 ?_ | refine WL.app3 ?_ | refine WL.app2 ?_ | refine WL.app1 ?_ | refine WL.app0 ?_ | skip
  generalize PW.num 2 M1 x.n = M2 at f2 hM
  repeat first
    | (apply WL.q; exact rfl; exact rfl; exact rfl; (first | (apply EvW.move; exact rfl)))
    | refine WC.seq ?_ | refine WC.region ?_ | refine WL.nil ?_ | refine WE.next ?_
  try refine WL.wanted rfl rfl rfl ?_
  apply WL.callA ([.own 5 1 (v2) (M2).out.length ((M2).out.map byt), .blk b #[v2, i64 (M2).lim, i64 (M2).e] 130])
  · exact rfl
  · exact rfl
  · exact fun w => Try.call43 _ w
  · (focus ((repeat constructor); done))
  · exact fun w1 S1 hS1 hs1 ho1 => rnumw_spec b v2 M2 x.s 4 (by decide) (by decide) w1 S1 hS1 (f2 _) h3
  rintro _ _ ⟨rfl, v3, rfl⟩
  first | refine WL.app4 ?_ | refine WL.app3 ?_ | refine WL.app2 ?_ | refine WL.app1 ?_ | refine WL.app0 ?_ | skip
  rw [hM]
  repeat first
    | (apply WL.q; exact rfl; exact rfl; exact rfl; (first | (apply EvW.move; exact rfl)))
    | refine WC.seq ?_ | refine WC.region ?_ | refine WL.nil ?_ | refine WE.next ?_
  try refine WL.wanted rfl rfl rfl ?_
  apply WL.callA ([.own 5 1 (v3) (tM x.p x.n x.s).out.length ((tM x.p x.n x.s).out.map byt), .blk b #[v3, i64 (tM x.p x.n x.s).lim, i64 (tM x.p x.n x.s).e] 130])
  · exact rfl
  · exact rfl
  · exact fun w => Try.call44 _ w
  · (focus ((repeat constructor); done))
  · exact fun w1 S1 hS1 hs1 ho1 => rdone_spec b v3 (tM x.p x.n x.s) w1 S1 hS1
  rintro _ _ ⟨rfl, rfl⟩
  first | refine WL.app4 ?_ | refine WL.app3 ?_ | refine WL.app2 ?_ | refine WL.app1 ?_ | refine WL.app0 ?_ | skip
  unfold makeF PW.said
  by_cases he : (tM x.p x.n x.s).e = 0
  · rw [if_pos he, if_neg (fun h => h he)]
    by_cases hl : (x.t.length : Int) > 1000
    · rw [if_pos hl]
      repeat first
        | (apply WL.q; exact rfl; exact rfl; exact rfl; (first | (apply EvW.move; exact rfl) | (apply EvW.assign; exact rfl) | (apply EvW.extract; exact rfl; exact rfl) | (apply EvW.lenS; exact rfl; exact UndC.eq) | (apply EvW.cmpT; exact rfl; exact rfl; exact rfl; omega) | (apply EvW.cmpF; exact rfl; exact rfl; exact rfl; omega)))
        | refine WC.seq ?_ | refine WC.region ?_ | refine WL.nil ?_ | refine WE.next ?_ | refine WC.skip ?_ | refine WC.condT rfl ?_ | refine WC.condF rfl ?_ | refine WC.ret ?_ | refine WE.passRet ?_
      refine WE.bare ?_
      refine WE.retN (l := [8, 9]) rfl rfl rfl ?_
      exact ⟨rfl, rfl⟩
    · rw [if_neg hl]
      repeat first
        | (apply WL.q; exact rfl; exact rfl; exact rfl; (first | (apply EvW.move; exact rfl) | (apply EvW.assign; exact rfl) | (apply EvW.extract; exact rfl; exact rfl) | (apply EvW.lenS; exact rfl; exact UndC.eq) | (apply EvW.cmpF; exact rfl; exact rfl; exact rfl; omega) | (apply EvW.sadd; exact rfl; exact rfl; (first | omega | (simp only [List.length_append, List.length_cons, List.length_nil]; omega)))))
        | refine WC.seq ?_ | refine WC.region ?_ | refine WL.nil ?_ | refine WE.next ?_ | refine WC.skip ?_ | refine WC.condF rfl ?_
      try refine WL.wanted rfl rfl rfl ?_
      apply WL.callA ([])
      · exact rfl
      · exact rfl
      · exact fun w => Try.call45 _ w
      · (focus ((repeat constructor); done))
      · exact fun w1 S1 hS1 hs1 ho1 => rseal_spec ((tM x.p x.n x.s).out ++ x.t) w1 S1 hS1 (by rw [List.length_append]; omega)
      rintro _ _ ⟨rfl, rfl⟩
      first | refine WL.app4 ?_ | refine WL.app3 ?_ | refine WL.app2 ?_ | refine WL.app1 ?_ | refine WL.app0 ?_ | skip
      rw [sealF_ok _ (by rw [List.length_append]; omega)]
      repeat first
        | (apply WL.q; exact rfl; exact rfl; exact rfl; (first | (apply EvW.move; exact rfl) | (apply EvW.assign; exact rfl) | (apply EvW.extract; exact rfl; exact rfl)))
        | refine WC.seq ?_ | refine WC.region ?_ | refine WL.nil ?_ | refine WE.next ?_ | refine WC.ret ?_
      refine WE.bare ?_
      refine WE.retN (l := [8, 9]) rfl rfl rfl ?_
      exact ⟨rfl, rfl⟩
  · rw [if_neg he, if_pos he]
    repeat first
      | (apply WL.q; exact rfl; exact rfl; exact rfl; (first | (apply EvW.move; exact rfl) | (apply EvW.assign; exact rfl) | (apply EvW.extract; exact rfl; exact rfl) | (apply EvW.cmpT; exact rfl; exact rfl; exact rfl; omega)))
      | refine WC.seq ?_ | refine WC.region ?_ | refine WL.nil ?_ | refine WE.next ?_ | refine WC.condT rfl ?_ | refine WC.ret ?_ | refine WE.passRet ?_
    refine WE.bare ?_
    refine WE.retN (l := [8, 9]) rfl rfl rfl ?_
    exact ⟨rfl, rfl⟩
theorem read_spec' (l : List UInt8) (p : Said × Int) (w : World) (S : BSet) (hS : (sepL []).sat S w) (hl : l.length ≤ 140737488355328) (hp : readF l = p) :
    Tri Try.prog 57 #[str l] w S fun u A => u = .tuple #[i64 (p.1).p, i64 (p.1).n, i64 (p.1).s, str (p.1).t, i64 p.2] ∧ A = [] := by
  refine Tri.enter (l := [str l]) Try.func57 rfl Try.ntmps57 rfl [(0, str l)] (subA rfl) hS ?_
  unfold readF at hp
  obtain ⟨b, e, hb⟩ : ∃ b e, openF l = (b, e) := ⟨_, _, rfl⟩
  rw [hb] at hp
  dsimp only at hp
  repeat first
    | (apply WL.q; exact rfl; exact rfl; exact rfl; (first | (apply EvW.move; exact rfl) | (apply EvW.assign; exact rfl)))
    | refine WC.seq ?_ | refine WC.region ?_ | refine WL.nil ?_ | refine WE.next ?_
  try refine WL.wanted rfl rfl rfl ?_
  apply WL.callA ([])
  · exact rfl
  · exact rfl
  · exact fun w => Try.call70 _ w
  · (focus ((repeat constructor); done))
  · exact fun w1 S1 hS1 hs1 ho1 => open_spec l w1 S1 hS1 (by omega)
  rintro _ _ ⟨rfl, rfl⟩
  first | refine WL.app4 ?_ | refine WL.app3 ?_ | refine WL.app2 ?_ | refine WL.app1 ?_ | refine WL.app0 ?_ | skip
  rw [hb]
  dsimp only
  by_cases he : e = 0
  rotate_left
  · rw [if_pos he] at hp
    subst hp
    repeat first
      | (apply WL.q; exact rfl; exact rfl; exact rfl; (first | (apply EvW.move; exact rfl) | (apply EvW.assign; exact rfl) | (apply EvW.extract; exact rfl; exact rfl) | (apply EvW.cmpT; exact rfl; exact rfl; exact rfl; omega)))
      | refine WC.seq ?_ | refine WC.region ?_ | refine WL.nil ?_ | refine WE.next ?_ | refine WC.block ?_ | refine WC.condT rfl ?_ | refine WC.ret ?_ | refine WE.passRet ?_ | refine WE.outRet ?_
    refine WE.retN (l := [2, 3, 4, 5, 6]) rfl rfl rfl ?_
    exact ⟨rfl, rfl⟩
  rw [if_neg (fun h => h he)] at hp
  by_cases h7 : (b.length : Int) < 7
  · rw [if_pos h7] at hp
    subst hp
    repeat first
      | (apply WL.q; exact rfl; exact rfl; exact rfl; (first | (apply EvW.move; exact rfl) | (apply EvW.assign; exact rfl) | (apply EvW.extract; exact rfl; exact rfl) | (apply EvW.lenS; exact rfl; exact UndC.eq) | (apply EvW.cmpT; exact rfl; exact rfl; exact rfl; omega) | (apply EvW.cmpF; exact rfl; exact rfl; exact rfl; omega)))
      | refine WC.seq ?_ | refine WC.region ?_ | refine WL.nil ?_ | refine WE.next ?_ | refine WC.block ?_ | refine WC.condT rfl ?_ | refine WC.condF rfl ?_ | refine WC.ret ?_ | refine WE.passRet ?_ | refine WE.outRet ?_
    refine WE.retN (l := [2, 3, 4, 5, 6]) rfl rfl rfl ?_
    exact ⟨rfl, rfl⟩
  rw [if_neg h7] at hp
  by_cases h8 : (b.length : Int) > 1007
  · rw [if_pos h8] at hp
    subst hp
    repeat first
      | (apply WL.q; exact rfl; exact rfl; exact rfl; (first | (apply EvW.move; exact rfl) | (apply EvW.assign; exact rfl) | (apply EvW.extract; exact rfl; exact rfl) | (apply EvW.lenS; exact rfl; exact UndC.eq) | (apply EvW.cmpT; exact rfl; exact rfl; exact rfl; omega) | (apply EvW.cmpF; exact rfl; exact rfl; exact rfl; omega)))
      | refine WC.seq ?_ | refine WC.region ?_ | refine WL.nil ?_ | refine WE.next ?_ | refine WC.block ?_ | refine WC.condT rfl ?_ | refine WC.condF rfl ?_ | refine WC.ret ?_ | refine WE.passRet ?_ | refine WE.outRet ?_
    refine WE.retN (l := [2, 3, 4, 5, 6]) rfl rfl rfl ?_
    exact ⟨rfl, rfl⟩
  rw [if_neg h8] at hp
  subst hp
  have k1 := r1_s b
  have k2 := r2_s b
  repeat first
    | (apply WL.q; exact rfl; exact rfl; exact rfl; (first | (apply EvW.move; exact rfl) | (apply EvW.assign; exact rfl) | (apply EvW.extract; exact rfl; exact rfl) | (apply EvW.lenS; exact rfl; exact UndC.eq) | (apply EvW.cmpF; exact rfl; exact rfl; exact rfl; omega)))
    | refine WC.seq ?_ | refine WC.region ?_ | refine WL.nil ?_ | refine WE.next ?_ | refine WC.block ?_ | refine WC.skip ?_ | refine WE.out ?_ | refine WC.condF rfl ?_
  try refine WL.wanted rfl rfl rfl ?_
  apply WL.callA ([])
  · exact rfl
  · exact rfl
  · exact fun w => Try.call71 _ w
  · (focus ((repeat constructor); done))
  · exact fun w1 S1 hS1 hs1 ho1 => read_spec b w1 S1 hS1
  rintro _ _ ⟨x, rfl, rfl⟩
  first | refine WL.app4 ?_ | refine WL.app3 ?_ | refine WL.app2 ?_ | refine WL.app1 ?_ | refine WL.app0 ?_ | skip
  repeat first
    | (apply WL.q; exact rfl; exact rfl; exact rfl; (first | (apply EvW.assign; exact rfl)))
    | refine WC.seq ?_ | refine WL.nil ?_ | refine WE.next ?_
  repeat refine WC.seq ?_
  refine WC.keep (xs := [.blk x #[i64 (PR.mk 0 b).e, str (PR.mk 0 b).s] 152]) (by repeat constructor) ?_
  apply WC.par _ (fun c : Ch => [.blk x #[i64 (PR.mk 0 b).e, str (PR.mk 0 b).s] 152, .blk x #[i64 ((r1 b).2).e, str ((r1 b).2).s] 152, .blk x #[i64 ((r2 b).2).e, str ((r2 b).2).s] 152, .blk x #[i64 ((r3 b).2).e, str ((r3 b).2).s] 152]) [none, some 1, some 3, some 5] [some 1, some 3, some 5, none] [] Try.mixed
  · (focus ((repeat (first | exact Restr.nil | (apply Restr.keep; exact rfl; exact rfl) | (apply Restr.drop; exact rfl))); done))
  · intro c; exact (by repeat constructor)
  · exact rfl
  · decide +kernel
  · decide +kernel
  · intro c
    (apply Par.quiet _ [true, false, false, false]; exact rfl; decide +kernel; exact rfl; intro R; refine ⟨_, (by repeat constructor), ?_⟩;
         (first | (apply EvW.move; exact rfl)))
    apply Par.eff _ [true, false, false, false] [false, true, false, false] [false, false, false, false]
    · exact rfl
    · exact rfl
    · decide +kernel
    · intro R
      refine ⟨_, _, _, (by repeat constructor), (by repeat constructor), (by repeat constructor), ?_⟩
      apply EffW.callT
      · exact rfl
      · exact fun w1 S1 hS1 hs1 ho1 => rbyte_spec x (PR.mk 0 b) w1 S1 hS1 (by simp; omega)
      · exact fun w => Try.call72 _ w
      · (focus ((repeat constructor); done))
      · exact fun _ _ h => h
      · exact fun _ h => TakeT.st (by (focus ((repeat (first | exact TakeT.tail | apply TakeT.cons | exact Take.head | apply Take.tail | apply TakeT.drop)); done))) h
    (apply Par.quiet _ [false, false, false, false]; exact rfl; decide +kernel; exact rfl; intro R; refine ⟨_, (by repeat constructor), ?_⟩;
         (first | (apply EvW.move; exact rfl)))
    apply Par.eff _ [false, true, false, false] [false, false, true, false] [false, false, false, false]
    · exact rfl
    · exact rfl
    · decide +kernel
    · intro R
      refine ⟨_, _, _, (by repeat constructor), (by repeat constructor), (by repeat constructor), ?_⟩
      apply EffW.callT
      · exact rfl
      · exact fun w1 S1 hS1 hs1 ho1 => rword_spec x (r1 b).2 w1 S1 hS1 (by omega)
      · exact fun w => Try.call73 _ w
      · (focus ((repeat constructor); done))
      · exact fun _ _ h => h
      · exact fun _ h => TakeT.st (by (focus ((repeat (first | exact TakeT.tail | apply TakeT.cons | exact Take.head | apply Take.tail | apply TakeT.drop)); done))) h
    (apply Par.quiet _ [false, false, false, false]; exact rfl; decide +kernel; exact rfl; intro R; refine ⟨_, (by repeat constructor), ?_⟩;
         (first | (apply EvW.move; exact rfl)))
    apply Par.eff _ [false, false, true, false] [false, false, false, true] [false, false, false, false]
    · exact rfl
    · exact rfl
    · decide +kernel
    · intro R
      refine ⟨_, _, _, (by repeat constructor), (by repeat constructor), (by repeat constructor), ?_⟩
      apply EffW.callT
      · exact rfl
      · exact fun w1 S1 hS1 hs1 ho1 => rlong_spec x (r2 b).2 w1 S1 hS1 (by omega)
      · exact fun w => Try.call74 _ w
      · (focus ((repeat constructor); done))
      · exact fun _ _ h => h
      · exact fun _ h => TakeT.st (by (focus ((repeat (first | exact TakeT.tail | apply TakeT.cons | exact Take.head | apply Take.tail | apply TakeT.drop)); done))) h
    (apply Par.quiet _ [false, false, false, false]; exact rfl; decide +kernel; exact rfl; intro R; refine ⟨_, (by repeat constructor), ?_⟩;
         (first | (apply EvW.move; exact rfl)))
    (apply Par.quiet _ [false, false, false, false]; exact rfl; decide +kernel; exact rfl; intro R; refine ⟨_, (by repeat constructor), ?_⟩;
         (first | (apply EvW.sliceS_lo; exact rfl; exact UndC.eq; exact rfl; omega; omega)))
    (apply Par.quiet _ [false, false, false, true]; exact rfl; decide +kernel; exact rfl; intro R; refine ⟨_, (by repeat constructor), ?_⟩;
         (first | (apply EvW.assign; exact rfl)))
    (apply Par.quiet _ [false, false, false, true]; exact rfl; decide +kernel; exact rfl; intro R; refine ⟨_, (by repeat constructor), ?_⟩;
         (first | (apply EvW.assign; exact rfl)))
    (apply Par.quiet _ [false, false, false, true]; exact rfl; decide +kernel; exact rfl; intro R; refine ⟨_, (by repeat constructor), ?_⟩;
         (first | (apply EvW.assign; exact rfl)))
    (apply Par.quiet _ [false, false, false, true]; exact rfl; decide +kernel; exact rfl; intro R; refine ⟨_, (by repeat constructor), ?_⟩;
         (first | (apply EvW.assign; exact rfl)))
    (apply Par.quiet _ [false, false, false, true]; exact rfl; decide +kernel; exact rfl; intro R; refine ⟨_, (by repeat constructor), ?_⟩;
         (first | (apply EvW.assign; exact rfl)))
    exact Par.nil
  · repeat (first | exact AllN.nil | (apply AllN.cons; (intro c x; (repeat (first | exact IndA.nil | (apply IndA.skip; decide +kernel) | apply IndA.same))))) 
  · repeat (first | exact AllN.nil | (apply AllN.cons; (intro c x; (repeat (first | exact IndT.nil | (apply IndT.skip; decide +kernel) | apply IndT.same))))) 
  · exact fun _ => rfl
  intro c
  refine ⟨_, (by repeat constructor), ?_⟩
  apply WE.writ
  · (focus ((repeat (first | exact Writ.nil | apply Writ.some | apply Writ.none)); done))
  repeat first
    | refine WE.next ?_ | refine WC.ret ?_
  refine WE.bare ?_
  refine WE.retN (l := [2, 3, 4, 5, 6]) rfl rfl rfl ?_
  exact ⟨rfl, rfl⟩
end Go.Proofs.Ytamofjpadnnppaa
namespace Go.Proofs.Ytamofjpadnnppaa
open Go.RowKit Go.BK
def sg (a b : Int) : Int := (b - a + 32768) % 65536 - 32768
def lostStep (s : Int × Int) (x : Int) : Int × Int := if 0 < sg s.1 x then (x, s.2 + (sg s.1 x - 1)) else s
def lost : List Int → Int
  | [] => 0
  | x :: r => (r.foldl lostStep (x, 0)).2
theorem w_u16 (n : Int) : IntKind.u16.wrap n = n % 65536 := by unfold IntKind.wrap; simp only [IntKind.bits, IntKind.signed, Bool.false_and, Bool.false_eq_true, ↓reduceIte]; rfl
theorem w_i16 (n : Int) : IntKind.i16.wrap n = (n + 32768) % 65536 - 32768 := by
  simp only [IntKind.wrap, IntKind.bits, IntKind.signed, Bool.true_and]
  split <;> rename_i h <;> (try simp only [decide_eq_true_eq, ge_iff_le] at h) <;> omega
theorem sq_gap_spec (a b : Int) (w : World) (S : BSet) (hS : (sepL []).sat S w) :
    Tri Try.prog 85 #[i64 a, i64 b] w S fun v A => v = i64 (sg a b) ∧ A = [] := by
  refine Tri.enter (l := [i64 a, i64 b]) Try.func85 rfl Try.ntmps85 rfl [(0, i64 a), (1, i64 b)] (subA rfl) hS ?_
  repeat first
    | (apply WL.q; exact rfl; exact rfl; exact rfl; (first | (apply EvW.move; exact rfl) | (apply EvW.assign; exact rfl) | (apply EvW.ar; exact rfl; exact rfl; exact rfl) | (apply EvW.convW; exact rfl; exact UndC.eq; exact UndC.eq; exact of_decide_eq_true rfl) | (apply EvW.conv; exact rfl; exact UndC.eq; exact UndC.eq)))
    | refine WC.seq ?_ | refine WC.region ?_ | refine WL.nil ?_ | refine WE.next ?_ | refine WC.ret ?_
  refine WE.ret1 rfl rfl ?_
  rw [w_u16, w_u16, w_u16, w_i16]; exact ⟨by congr 1; unfold sg; omega, rfl⟩
theorem sq_newer_spec (a b : Int) (w : World) (S : BSet) (hS : (sepL []).sat S w) :
    Tri Try.prog 75 #[i64 a, i64 b] w S fun v A => v = .bool (decide (0 < sg a b)) ∧ A = [] := by
  refine Tri.enter (l := [i64 a, i64 b]) Try.func75 rfl Try.ntmps75 rfl [(0, i64 a), (1, i64 b)] (subA rfl) hS ?_
  repeat first
    | (apply WL.q; exact rfl; exact rfl; exact rfl; (first | (apply EvW.move; exact rfl) | (apply EvW.assign; exact rfl)))
    | refine WC.seq ?_ | refine WC.region ?_ | refine WL.nil ?_ | refine WE.next ?_
  try refine WL.wanted rfl rfl rfl ?_
  apply WL.callT
  · exact rfl
  · exact rfl
  · exact fun w1 S1 hS1 hs1 ho1 => sq_gap_spec a b w1 S1 hS1
  · exact fun w => Try.call85 _ w
  · (focus ((repeat constructor); done))
  rintro _ _ ⟨rfl, rfl⟩
  first | refine WL.app4 ?_ | refine WL.app3 ?_ | refine WL.app2 ?_ | refine WL.app1 ?_ | refine WL.app0 ?_ | skip
  repeat first
    | (apply WL.q; exact rfl; exact rfl; exact rfl; (first | (apply EvW.assign; exact rfl) | (apply EvW.cmp; exact rfl; exact rfl; exact rfl)))
    | refine WL.nil ?_ | refine WE.next ?_ | refine WC.ret ?_
  refine WE.ret1 rfl rfl ?_
  exact ⟨rfl, rfl⟩
theorem sq_take_spec (p T : Nat) (last ls n : Int) (w : World) (S : BSet) (hS : (sepL [.blk p #[i64 last, i64 ls] T]).sat S w) (h0 : 0 ≤ ls) (h1 : ls ≤ 4611686018427387904) :
    Tri Try.prog 86 #[ptr p 0, i64 n] w S fun v A => v = .tuple #[] ∧ A = [.blk p #[i64 (lostStep (last, ls) n).1, i64 (lostStep (last, ls) n).2] T] := by
  have hg : -32768 ≤ sg last n ∧ sg last n ≤ 32767 := by unfold sg; omega
  refine Tri.enter (l := [ptr p 0, i64 n]) Try.func86 rfl Try.ntmps86 rfl [(0, ptr p 0), (1, i64 n)] (subA rfl) hS ?_
  repeat first
    | (apply WL.q; exact rfl; exact rfl; exact rfl; (first | (apply EvW.move; exact rfl) | (apply EvW.nilPtr; exact rfl) | (apply EvW.fieldAddr0; exact rfl; exact FldC.eq) | (apply EvW.load; exact rfl; exact ScalC.eq; (focus ((repeat constructor); done)); exact rfl)))
    | refine WC.seq ?_ | refine WC.region ?_
  try refine WL.wanted rfl rfl rfl ?_
  apply WL.callT
  · exact rfl
  · exact rfl
  · exact fun w1 S1 hS1 hs1 ho1 => sq_newer_spec last n w1 S1 hS1
  · exact fun w => Try.call75 _ w
  · (focus ((repeat constructor); done))
  rintro _ _ ⟨rfl, rfl⟩
  first | refine WL.app4 ?_ | refine WL.app3 ?_ | refine WL.app2 ?_ | refine WL.app1 ?_ | refine WL.app0 ?_ | skip
  repeat first
    | refine WL.nil ?_ | refine WE.next ?_
  refine WC.condP rfl (fun h => ?_) (fun h => ?_)
  · skip
    repeat refine WC.seq ?_
    apply WC.drawE ([[.blk p #[i64 last, i64 ls] T], [.blk p #[i64 last, i64 (ls + (sg last n - 1))] T]]) ([14]) Try.mixed
    · (focus ((repeat (first | exact Restr.nil | (apply Restr.keep; exact rfl; exact rfl) | (apply Restr.drop; exact rfl))); done))
    · exact rfl
    · exact rfl
    · decide +kernel
    · decide +kernel
    · decide +kernel
    · decide +kernel
    · repeat first
          | exact Draws.nil
          | (apply Draws.skip; exact rfl; exact rfl)
          | (apply Draws.at 0; exact rfl; decide +kernel
             (first | (apply EvW.move; exact rfl) | (apply EvW.nilPtr; exact rfl) | (apply EvW.fieldAddr0; exact rfl; exact FldC.eq) | (apply EvW.load; exact rfl; exact ScalC.eq; (focus ((repeat constructor); done)); exact rfl)))
          | (apply Draws.at 1; exact rfl; decide +kernel
             fail)
          | (apply Draws.two 0; exact rfl; decide +kernel
             fail
             fail)
          | (apply Draws.at 2; exact rfl; decide +kernel
             fail)
          | (apply Draws.two 1; exact rfl; decide +kernel
             fail
             fail)
      (first | (apply Draws.q0; exact rfl) | (apply Draws.at 0; exact rfl; decide +kernel) | (apply Draws.at 1; exact rfl; decide +kernel))
      · apply EvW.callQ
        · exact rfl
        · exact fun w1 S1 hS1 hs1 ho1 => sq_gap_spec last n w1 S1 hS1
        · exact fun w => Try.call85 _ w
        · exact fun _ _ h => h
      repeat first
          | exact Draws.nil
          | (apply Draws.skip; exact rfl; exact rfl)
          | (apply Draws.at 0; exact rfl; decide +kernel
             (first | (apply EvW.nilPtr; exact rfl) | (apply EvW.fieldAddr0; exact rfl; exact FldC.eq) | (apply EvW.arN; exact rfl; exact rfl; exact rfl; refine i64_in ?_ ?_ <;> omega)))
          | (apply Draws.at 1; exact rfl; decide +kernel
             fail)
          | (apply Draws.two 0; exact rfl; decide +kernel
             fail
             fail)
          | (apply Draws.at 2; exact rfl; decide +kernel
             fail)
          | (apply Draws.two 1; exact rfl; decide +kernel
             fail
             fail)
      apply Draws.eff _ (0) rfl rfl
      · (apply EffW.store; exact rfl; exact rfl; exact rfl; exact SzC.eq; exact rfl; (focus ((repeat constructor); done)))
      repeat first
          | exact Draws.nil
          | (apply Draws.skip; exact rfl; exact rfl)
          | (apply Draws.at 0; exact rfl; decide +kernel
             fail)
          | (apply Draws.at 1; exact rfl; decide +kernel
             fail)
          | (apply Draws.two 0; exact rfl; decide +kernel
             fail
             fail)
          | (apply Draws.at 2; exact rfl; decide +kernel
             fail)
          | (apply Draws.two 1; exact rfl; decide +kernel
             fail
             fail)
    apply WE.writ
    · (focus ((repeat (first | exact Writ.nil | apply Writ.some | apply Writ.none)); done))
    repeat first
      | (apply WL.q; exact rfl; exact rfl; exact rfl; (first | (apply EvW.move; exact rfl) | (apply EvW.nilPtr; exact rfl) | (apply EvW.fieldAddr0; exact rfl; exact FldC.eq)))
      | refine WC.region ?_ | refine WL.nil ?_ | refine WE.next ?_ | (apply WL.store; exact rfl; exact rfl; (first | assumption | exact rfl); exact SzC.eq; (first | assumption | exact rfl); (focus ((repeat constructor); done)))
    refine WE.end0 rfl ⟨rfl, ?_⟩
    simp [lostStep, h]
  · repeat first
      | refine WC.skip ?_
    refine WE.end0 rfl ⟨rfl, ?_⟩
    simp [lostStep, h]
theorem sg_bd (a b : Int) : -32768 ≤ sg a b ∧ sg a b ≤ 32767 := by unfold sg; omega
theorem lost_bd (l : List Int) (s : Int × Int) (h : 0 ≤ s.2) : 0 ≤ (l.foldl lostStep s).2 ∧ (l.foldl lostStep s).2 ≤ s.2 + 32767 * l.length := by
  induction l generalizing s with
  | nil => exact ⟨h, by simp⟩
  | cons x r ih =>
    have hg := sg_bd s.1 x
    simp only [List.foldl_cons, List.length_cons]
    by_cases hc : 0 < sg s.1 x
    · have e : lostStep s x = (x, s.2 + (sg s.1 x - 1)) := by simp [lostStep, hc]
      rw [e]
      have := ih (x, s.2 + (sg s.1 x - 1)) (by simp only []; omega)
      simp only [] at this
      omega
    · have e : lostStep s x = s := by simp [lostStep, hc]
      rw [e]
      have := ih s h
      omega
theorem fold_take (t : List Int) (s : Int × Int) (k : Nat) (h : k < t.length) : (t.take (k + 1)).foldl lostStep s = lostStep ((t.take k).foldl lostStep s) (t.getD k 0) := by
  rw [List.take_succ_eq_append_getElem h, List.foldl_append]
  simp [List.getD, h]
theorem sq_lost_spec (v : Value) (xs : List Int) (w : World) (S : BSet) (hS : (sepL []).sat S w) (hx : Sees w S (.row 1 v xs.length (xs.map i64))) (hb : (xs.length : Int) ≤ 17592186044416) :
    Tri Try.prog 76 #[v] w S fun u A => u = i64 (lost xs) ∧ A = [] := by
  refine Tri.enter (l := [v]) Try.func76 rfl Try.ntmps76 rfl [(0, v)] (subA rfl) hS ?_
  repeat first
    | (apply WL.q; exact rfl; exact rfl; exact rfl; (first | (apply EvW.move; exact rfl) | (apply EvW.assign; exact rfl) | (apply EvW.cmp; exact rfl; exact rfl; exact rfl) | (apply EvW.lenRow; exact rfl; exact UndC.eq; assumption)))
    | refine WC.seq ?_ | refine WC.region ?_ | refine WL.nil ?_ | refine WE.next ?_
  refine WC.condP rfl (fun h => ?_) (fun h => ?_)
  · have hn : xs = [] := List.length_eq_zero_iff.1 (by omega)
    subst hn
    repeat first
      | (apply WL.q; exact rfl; exact rfl; exact rfl; (first | (apply EvW.assign; exact rfl)))
      | refine WC.seq ?_ | refine WC.region ?_ | refine WL.nil ?_ | refine WE.next ?_ | refine WC.ret ?_ | refine WE.passRet ?_
    refine WE.ret1 rfl rfl ?_
    exact ⟨rfl, rfl⟩
  · obtain ⟨x, t, rfl⟩ : ∃ x t, xs = x :: t := by
      cases xs with
      | nil => simp at h
      | cons x t => exact ⟨x, t, rfl⟩
    simp only [List.length_cons] at hb
    have hx' := hx.subRow (lo := 1) (hi := (x :: t).length) (by simp) (Nat.le_refl _)
    simp only [List.length_cons, Nat.add_sub_cancel, Nat.mul_one, List.map_cons, List.take_succ_cons, List.drop_succ_cons, List.drop_zero, List.take_of_length_le (show (t.map i64).length ≤ t.length by simp)] at hx'
    repeat first
      | (apply WL.q; exact rfl; exact rfl; exact rfl; (first | (apply EvW.move; exact rfl) | (apply EvW.build; exact PlC.eq; exact ZvC.eq; exact rfl; exact rfl; (focus ((repeat (first | exact Fills.nil | (apply Fills.cons; exact rfl; (first | assumption | exact rfl); exact rfl) | exact SetMany.nil | apply SetMany.cons | apply SetMany.succ)); done))) | (apply EvW.idxRow; exact rfl; exact rfl; exact UndC.eq; exact SzC.eq; assumption; omega; omega) | (apply EvW.ldInt; exact rfl; exact ScalC.eq; assumption; omega)))
      | refine WC.seq ?_ | refine WC.region ?_ | refine WE.next ?_ | refine WC.skip ?_
    try refine WL.wanted rfl rfl rfl ?_
    (apply WL.alloc; exact rfl; exact ZvC.eq; exact rfl; intro r)
    repeat first
      | (apply WL.q; exact rfl; exact rfl; exact rfl; (first | (apply EvW.move; exact rfl) | (apply EvW.lenRow; exact rfl; exact UndC.eq; assumption) | (apply EvW.sliceRow_lo; exact rfl; assumption; exact UndC.eq; exact SzC.eq; exact rfl; omega; omega)))
      | refine WC.seq ?_ | refine WC.region ?_ | refine WL.nil ?_ | refine WE.next ?_ | refine WC.block ?_ | (apply WL.store; exact rfl; exact rfl; (first | assumption | exact rfl); exact SzC.eq; (first | assumption | exact rfl); (focus ((repeat constructor); done)))
    refine WC.loop (σ := Nat) (fun k => [(16, i64 k), (15, i64 t.length), (14, subSl 1 1 (t.length + 1) v), (3, ptr r 0)])
      (fun k => [.blk r #[i64 ((t.take k).foldl lostStep (x, 0)).1, i64 ((t.take k).foldl lostStep (x, 0)).2] 154]) (fun k => k ≤ t.length) (fun k => t.length - k) 0 ⟨rfl, rfl, rfl, rfl, trivial⟩ (fun _ h => h) (Nat.zero_le _) (fun k hk => ?_)
    by_cases hlt : (k : Int) < t.length
    · repeat first
        | (apply WL.q; exact rfl; exact rfl; exact rfl; (first | (apply EvW.move; exact rfl) | (apply EvW.assign; exact rfl) | (apply EvW.cmpT; exact rfl; exact rfl; exact rfl; omega) | (apply EvW.idxRow; exact rfl; exact rfl; exact UndC.eq; exact SzC.eq; assumption; omega; omega) | (apply EvW.ldInt; exact rfl; exact ScalC.eq; assumption; omega)))
        | refine WC.seq ?_ | refine WC.region ?_ | refine WL.nil ?_ | refine WE.next ?_ | refine WC.block ?_ | refine WC.skip ?_ | refine WC.condT rfl ?_
      have hbd := lost_bd (t.take k) (x, 0) (Int.le_refl _)
      have hl : (t.take k).length ≤ t.length := by simp; omega
      try refine WL.wanted rfl rfl rfl ?_
      apply WL.callT
      · exact rfl
      · exact rfl
      · exact fun w1 S1 hS1 hs1 ho1 => sq_take_spec r 154 ((t.take k).foldl lostStep (x, 0)).1 ((t.take k).foldl lostStep (x, 0)).2 _ w1 S1 hS1 (by omega) (by simp only [] at hbd; omega)
      · exact fun w => Try.call86 _ w
      · (focus ((repeat constructor); done))
      rintro _ _ ⟨rfl, rfl⟩
      first | refine WL.app4 ?_ | refine WL.app3 ?_ | refine WL.app2 ?_ | refine WL.app1 ?_ | refine WL.app0 ?_ | skip
      repeat first
        | (apply WL.q; exact rfl; exact rfl; exact rfl; (first | (apply EvW.move; exact rfl) | (apply EvW.arN; exact rfl; exact rfl; exact rfl; refine i64_in ?_ ?_ <;> omega)))
        | refine WC.region ?_ | refine WL.nil ?_ | refine WE.next ?_ | refine WE.out ?_
      exact WE.again (k + 1) (by omega) ⟨rfl, rfl, rfl, rfl, trivial⟩ (fun _ h => by rw [fold_take t _ k (by omega)]; exact h) (by omega)
    · obtain rfl : k = t.length := by omega
      repeat first
        | (apply WL.q; exact rfl; exact rfl; exact rfl; (first | (apply EvW.assign; exact rfl) | (apply EvW.fieldAddr0; exact rfl; exact FldC.eq) | (apply EvW.load; exact rfl; exact ScalC.eq; (focus ((repeat constructor); done)); exact rfl) | (apply EvW.cmpF; exact rfl; exact rfl; exact rfl; omega)))
        | refine WC.seq ?_ | refine WC.region ?_ | refine WL.nil ?_ | refine WE.next ?_ | refine WC.exit ?_ | refine WE.pass ?_ | refine WE.hit ?_ | refine WC.condF rfl ?_ | refine WC.ret ?_
      refine WE.bare ?_
      refine WE.ret1 rfl rfl ?_
      refine ⟨?_, rfl⟩
      simp [lost]
end Go.Proofs.Ytamofjpadnnppaa
namespace Go.Proofs.Ytamofjpadnnppaa
open Go.RowKit Go.BK
/-- A receiver: the last stamp, how many were lost, the last number, the peer, the age. -/
structure Rcv where
  last : Int
  lost : Int
  num : Int
  peer : Int
  age : Int
def Rcv.new (p a : Int) : Rcv := ⟨-1, 0, 0, p, a⟩
def Rcv.note (m : Rcv) (n s : Int) : Rcv := if 0 ≤ m.last then { m with last := s, num := (lostStep (m.num, m.lost) n).1, lost := (lostStep (m.num, m.lost) n).2 } else { m with last := s, num := n }
def takeF (m : Rcv) (now : Int) (r : Said × Int) : Rcv × List UInt8 × Int :=
  if r.2 ≠ 0 then (m, [], r.2) else if r.1.p ≠ m.peer then (m, [], 16) else if now < r.1.s then (m, [], 19) else if m.age < now - r.1.s then (m, [], 17) else if r.1.s ≤ m.last then (m, [], 18) else (m.note r.1.n r.1.s, r.1.t, 0)
structure Said.small (x : Said) : Prop where
  p : 0 ≤ x.p ∧ x.p < 256
  n : 0 ≤ x.n ∧ x.n < 65536
  s : 0 ≤ x.s ∧ x.s < 4294967296
  t : x.t.length ≤ 1000
theorem num_bd (m : PR) (k : Nat) : 0 ≤ (m.num k).1 ∧ (m.num k).1 < 256 ^ k := by
  have h := numOf_bd (m.take 0 k).1
  have hl := PR.take_len m 0 k
  refine ⟨h.1, Int.lt_of_lt_of_le h.2 ?_⟩
  show (256 : Int) ^ (m.take 0 k).1.length ≤ 256 ^ k
  have e : ∀ j : Nat, (256 : Int) ^ j = ((256 ^ j : Nat) : Int) := fun j => by rw [Int.natCast_pow]; rfl
  rw [e, e]
  exact Int.ofNat_le.2 (Nat.pow_le_pow_right (by decide) hl)
theorem readF_small {l : List UInt8} {x : Said} {e : Int} (h : readF l = (x, e)) : x.small := by
  unfold readF at h
  have hn : Said.none.small := ⟨by decide, by decide, by decide, by decide⟩
  split at h
  · cases h; exact hn
  split at h
  · cases h; exact hn
  split at h
  · cases h; exact hn
  rename_i h1 h2 h3
  cases h
  exact ⟨by simpa [r1] using num_bd (PR.mk 0 (openF l).1) 1, by simpa [r2] using num_bd (r1 (openF l).1).2 2, by simpa [r3] using num_bd (r2 (openF l).1).2 4, by simp only [List.length_drop]; omega⟩
theorem lost_two (a n : Int) : lost [a, n] = if 0 < sg a n then sg a n - 1 else 0 := by
  simp only [lost, List.foldl_cons, List.foldl_nil, lostStep]
  split <;> simp
theorem sg_self (a : Int) : sg a a = 0 := by unfold sg; omega
theorem note_spec' (b : Nat) (m : Rcv) (n s : Int) (w : World) (S : BSet) (hS : (sepL [.blk b #[i64 (m).last, i64 (m).lost, i64 (m).num, i64 (m).peer, i64 (m).age] 85]).sat S w) (h0 : 0 ≤ m.lost) (h1 : m.lost ≤ 4611686018427387904) :
    Tri Try.prog 58 #[ptr b 0, i64 n, i64 s] w S fun u A => u = .tuple #[] ∧ A = [.blk b #[i64 (m.note n s).last, i64 (m.note n s).lost, i64 (m.note n s).num, i64 (m.note n s).peer, i64 (m.note n s).age] 85] := by
  refine Tri.enter (l := [ptr b 0, i64 n, i64 s]) Try.func58 rfl Try.ntmps58 rfl [(0, ptr b 0), (1, i64 n), (2, i64 s)] (subA rfl) hS ?_
  have hg := sg_bd m.num n
  have hlt := lost_two m.num n
  have hls := lost_two m.num m.num
  rw [sg_self, if_neg (by decide)] at hls
  unfold Rcv.note lostStep
  by_cases hl : 0 ≤ m.last
  · rw [if_pos hl]
    by_cases hn : 0 < sg m.num n
    · rw [if_pos hn] at hlt ⊢
      repeat first
        | (apply WL.q; exact rfl; exact rfl; exact rfl; (first | (apply EvW.move; exact rfl) | (apply EvW.nilPtr; exact rfl) | (apply EvW.fieldAddr0; exact rfl; exact FldC.eq) | (apply EvW.load; exact rfl; exact ScalC.eq; (focus ((repeat constructor); done)); exact rfl) | (apply EvW.cmpT; exact rfl; exact rfl; exact rfl; omega)))
        | refine WC.seq ?_ | refine WC.region ?_ | refine WL.wanted rfl rfl rfl ?_
      try refine WL.wanted rfl rfl rfl ?_
      apply WL.callA ([])
      · exact rfl
      · exact rfl
      · exact fun w => Try.call75 _ w
      · (focus ((repeat constructor); done))
      · exact fun w1 S1 hS1 hs1 ho1 => sq_newer_spec m.num n w1 S1 hS1
      rintro _ _ ⟨rfl, rfl⟩
      first | refine WL.app4 ?_ | refine WL.app3 ?_ | refine WL.app2 ?_ | refine WL.app1 ?_ | refine WL.app0 ?_ | skip
      rw [decide_eq_true hn]
      repeat first
        | (apply WL.q; exact rfl; exact rfl; exact rfl; (first | (apply EvW.move; exact rfl) | (apply EvW.nilPtr; exact rfl) | (apply EvW.fieldAddr0; exact rfl; exact FldC.eq) | (apply EvW.load; exact rfl; exact ScalC.eq; (focus ((repeat constructor); done)); exact rfl) | (apply EvW.cmpT; exact rfl; exact rfl; exact rfl; omega) | (apply EvW.pickT; exact rfl; exact rfl) | (apply EvW.notT; exact rfl)))
        | refine WC.seq ?_ | refine WC.region ?_ | refine WL.nil ?_ | refine WE.next ?_ | refine WC.skip ?_ | refine WC.condT rfl ?_ | refine WC.condF rfl ?_ | refine WL.wanted rfl rfl rfl ?_
      repeat refine WC.seq ?_
      refine WC.keep (xs := [.blk b #[i64 (m).last, i64 (m).lost, i64 (m).num, i64 (m).peer, i64 (m).age] 85]) (by repeat constructor) ?_
      apply WC.par _ (fun c : Ch => [.blk b #[i64 (m).last, i64 (m).lost, i64 (m).num, i64 (m).peer, i64 (m).age] 85, .blk b #[i64 m.last, i64 (m.lost + lost [m.num, n]), i64 m.num, i64 m.peer, i64 m.age] 85, .blk (c 9).1 #[i64 m.num, i64 n] 3]) [none, some 14, some 9] [some 14, none, none] [(9, fun x => .slice (some ⟨x.1, 0, none⟩) 2 2)] Try.mixed
      · (focus ((repeat (first | exact Restr.nil | (apply Restr.keep; exact rfl; exact rfl) | (apply Restr.drop; exact rfl))); done))
      · intro c; exact (by repeat constructor)
      · exact rfl
      · decide +kernel
      · decide +kernel
      · intro c
        (apply Par.quiet _ [true, false, false]; exact rfl; decide +kernel; exact rfl; intro R; refine ⟨_, (by repeat constructor), ?_⟩;
             (first | (apply EvW.move; exact rfl)))
        (apply Par.quiet _ [true, false, false]; exact rfl; decide +kernel; exact rfl; intro R; refine ⟨_, (by repeat constructor), ?_⟩;
             (first | (apply EvW.nilPtr; exact rfl)))
        (apply Par.quiet _ [true, false, false]; exact rfl; decide +kernel; exact rfl; intro R; refine ⟨_, (by repeat constructor), ?_⟩;
             (first | (apply EvW.fieldAddr0; exact rfl; exact FldC.eq)))
        (apply Par.quiet _ [true, false, false]; exact rfl; decide +kernel; exact rfl; intro R; refine ⟨_, (by repeat constructor), ?_⟩;
             (first | (apply EvW.load; exact rfl; exact ScalC.eq; (focus ((repeat constructor); done)); exact rfl)))
        (apply Par.quiet _ [true, false, false]; exact rfl; decide +kernel; exact rfl; intro R; refine ⟨_, (by repeat constructor), ?_⟩;
             (first | (apply EvW.move; exact rfl)))
        (apply Par.quiet _ [true, false, false]; exact rfl; decide +kernel; exact rfl; intro R; refine ⟨_, (by repeat constructor), ?_⟩;
             (first | (apply EvW.nilPtr; exact rfl)))
        (apply Par.quiet _ [true, false, false]; exact rfl; decide +kernel; exact rfl; intro R; refine ⟨_, (by repeat constructor), ?_⟩;
             (first | (apply EvW.fieldAddr0; exact rfl; exact FldC.eq)))
        (apply Par.quiet _ [true, false, false]; exact rfl; decide +kernel; exact rfl; intro R; refine ⟨_, (by repeat constructor), ?_⟩;
             (first | (apply EvW.load; exact rfl; exact ScalC.eq; (focus ((repeat constructor); done)); exact rfl)))
        (apply Par.quiet _ [true, false, false]; exact rfl; decide +kernel; exact rfl; intro R; refine ⟨_, (by repeat constructor), ?_⟩;
             (first | (apply EvW.move; exact rfl)))
        (apply Par.new _ [false, false, false] [false, false, true] [true, false, false]; exact rfl; exact rfl; decide +kernel; intro R; refine ⟨_, _, _, (by repeat constructor), (by repeat constructor), (fun x => (by repeat constructor)), ?_⟩; (apply NewW.buildSlice; exact UndC.eq; exact SzC.eq; exact ZvC.eq; exact rfl; exact rfl; exact rfl; (focus ((repeat (first | exact Flat.nil | (apply Flat.one; (first | exact rfl | assumption)) | (apply Flat.cons; exact rfl; exact rfl))); done)); exact rfl; exact rfl; exact fun _ => rfl))
        apply Par.quiet _ [true, false, true]
        · exact rfl
        · decide +kernel
        · exact rfl
        · intro R
          refine ⟨_, (by repeat constructor), ?_⟩
          apply EvW.callK ([])
          · exact rfl
          · exact fun w => Try.call76 _ w
          · (focus ((repeat constructor); done))
          · exact fun w1 S1 hS1 hs1 ho1 => sq_lost_spec _ [m.num, n] w1 S1 hS1 ((ho1 _ _ (by repeat constructor)).blkRow rfl (fun k u h => by simpa using h) (by simp)) (by simp)
          · exact fun _ _ h => h
        (apply Par.quiet _ [true, false, true]; exact rfl; decide +kernel; exact rfl; intro R; refine ⟨_, (by repeat constructor), ?_⟩;
             (first | (apply EvW.arN; exact rfl; exact rfl; exact rfl; refine i64_in ?_ ?_ <;> omega)))
        (apply Par.quiet _ [true, false, true]; exact rfl; decide +kernel; exact rfl; intro R; refine ⟨_, (by repeat constructor), ?_⟩;
             (first | (apply EvW.nilPtr; exact rfl)))
        (apply Par.quiet _ [true, false, true]; exact rfl; decide +kernel; exact rfl; intro R; refine ⟨_, (by repeat constructor), ?_⟩;
             (first | (apply EvW.fieldAddr0; exact rfl; exact FldC.eq)))
        (apply Par.eff _ [true, false, false] [false, true, false] [false, false, true]; exact rfl; exact rfl; decide +kernel; intro R; refine ⟨_, _, _, (by repeat constructor), (by repeat constructor), (by repeat constructor), ?_⟩; (apply EffW.store; exact rfl; exact rfl; (first | assumption | exact rfl); exact SzC.eq; (first | assumption | exact rfl); (focus ((repeat constructor); done))))
        exact Par.nil
      · repeat (first | exact AllN.nil | (apply AllN.cons; (intro c x; (repeat (first | exact IndA.nil | (apply IndA.skip; decide +kernel) | apply IndA.same))))) 
      · repeat (first | exact AllN.nil | (apply AllN.cons; (intro c x; (repeat (first | exact IndT.nil | (apply IndT.skip; decide +kernel) | apply IndT.same))))) 
      · exact fun _ => rfl
      intro c
      refine ⟨_, (by repeat constructor), ?_⟩
      apply WE.writ
      · (focus ((repeat (first | exact Writ.nil | apply Writ.some | apply Writ.none)); done))
      generalize (c 9).1 = b9
      rw [hlt]
      repeat first
        | (apply WL.q; exact rfl; exact rfl; exact rfl; (first | (apply EvW.move; exact rfl) | (apply EvW.nilPtr; exact rfl) | (apply EvW.fieldAddr0; exact rfl; exact FldC.eq)))
        | refine WC.region ?_ | refine WL.nil ?_ | refine WE.next ?_ | (apply WL.store; exact rfl; exact rfl; (first | assumption | exact rfl); exact SzC.eq; (first | assumption | exact rfl); (focus ((repeat constructor); done)))
      refine WE.keep (xs := [.blk b #[i64 (Rcv.mk s (m.lost + (sg m.num n - 1)) n m.peer m.age).last, i64 (Rcv.mk s (m.lost + (sg m.num n - 1)) n m.peer m.age).lost, i64 (Rcv.mk s (m.lost + (sg m.num n - 1)) n m.peer m.age).num, i64 (Rcv.mk s (m.lost + (sg m.num n - 1)) n m.peer m.age).peer, i64 (Rcv.mk s (m.lost + (sg m.num n - 1)) n m.peer m.age).age] 85]) (by repeat constructor) ?_
      first | refine WE.end0 rfl ?_ | refine WE.ret0 rfl ?_
      exact ⟨rfl, rfl⟩
    · rw [if_neg hn]
      repeat first
        | (apply WL.q; exact rfl; exact rfl; exact rfl; (first | (apply EvW.move; exact rfl) | (apply EvW.nilPtr; exact rfl) | (apply EvW.fieldAddr0; exact rfl; exact FldC.eq) | (apply EvW.load; exact rfl; exact ScalC.eq; (focus ((repeat constructor); done)); exact rfl) | (apply EvW.cmpT; exact rfl; exact rfl; exact rfl; omega)))
        | refine WC.seq ?_ | refine WC.region ?_ | refine WL.wanted rfl rfl rfl ?_
      try refine WL.wanted rfl rfl rfl ?_
      apply WL.callA ([])
      · exact rfl
      · exact rfl
      · exact fun w => Try.call75 _ w
      · (focus ((repeat constructor); done))
      · exact fun w1 S1 hS1 hs1 ho1 => sq_newer_spec m.num n w1 S1 hS1
      rintro _ _ ⟨rfl, rfl⟩
      first | refine WL.app4 ?_ | refine WL.app3 ?_ | refine WL.app2 ?_ | refine WL.app1 ?_ | refine WL.app0 ?_ | skip
      rw [decide_eq_false hn]
      repeat first
        | (apply WL.q; exact rfl; exact rfl; exact rfl; (first | (apply EvW.move; exact rfl) | (apply EvW.assign; exact rfl) | (apply EvW.nilPtr; exact rfl) | (apply EvW.fieldAddr0; exact rfl; exact FldC.eq) | (apply EvW.load; exact rfl; exact ScalC.eq; (focus ((repeat constructor); done)); exact rfl) | (apply EvW.cmpT; exact rfl; exact rfl; exact rfl; omega) | (apply EvW.pickT; exact rfl; exact rfl) | (apply EvW.notF; exact rfl)))
        | refine WC.seq ?_ | refine WC.region ?_ | refine WL.nil ?_ | refine WE.next ?_ | refine WC.condT rfl ?_ | refine WL.wanted rfl rfl rfl ?_
      repeat refine WC.seq ?_
      refine WC.keep (xs := [.blk b #[i64 (m).last, i64 (m).lost, i64 (m).num, i64 (m).peer, i64 (m).age] 85]) (by repeat constructor) ?_
      apply WC.par _ (fun c : Ch => [.blk b #[i64 (m).last, i64 (m).lost, i64 (m).num, i64 (m).peer, i64 (m).age] 85, .blk b #[i64 m.last, i64 (m.lost + lost [m.num, m.num]), i64 m.num, i64 m.peer, i64 m.age] 85, .blk (c 9).1 #[i64 m.num, i64 m.num] 3]) [none, some 14, some 9] [some 14, none, none] [(9, fun x => .slice (some ⟨x.1, 0, none⟩) 2 2)] Try.mixed
      · (focus ((repeat (first | exact Restr.nil | (apply Restr.keep; exact rfl; exact rfl) | (apply Restr.drop; exact rfl))); done))
      · intro c; exact (by repeat constructor)
      · exact rfl
      · decide +kernel
      · decide +kernel
      · intro c
        (apply Par.quiet _ [true, false, false]; exact rfl; decide +kernel; exact rfl; intro R; refine ⟨_, (by repeat constructor), ?_⟩;
             (first | (apply EvW.move; exact rfl)))
        (apply Par.quiet _ [true, false, false]; exact rfl; decide +kernel; exact rfl; intro R; refine ⟨_, (by repeat constructor), ?_⟩;
             (first | (apply EvW.nilPtr; exact rfl)))
        (apply Par.quiet _ [true, false, false]; exact rfl; decide +kernel; exact rfl; intro R; refine ⟨_, (by repeat constructor), ?_⟩;
             (first | (apply EvW.fieldAddr0; exact rfl; exact FldC.eq)))
        (apply Par.quiet _ [true, false, false]; exact rfl; decide +kernel; exact rfl; intro R; refine ⟨_, (by repeat constructor), ?_⟩;
             (first | (apply EvW.load; exact rfl; exact ScalC.eq; (focus ((repeat constructor); done)); exact rfl)))
        (apply Par.quiet _ [true, false, false]; exact rfl; decide +kernel; exact rfl; intro R; refine ⟨_, (by repeat constructor), ?_⟩;
             (first | (apply EvW.move; exact rfl)))
        (apply Par.quiet _ [true, false, false]; exact rfl; decide +kernel; exact rfl; intro R; refine ⟨_, (by repeat constructor), ?_⟩;
             (first | (apply EvW.nilPtr; exact rfl)))
        (apply Par.quiet _ [true, false, false]; exact rfl; decide +kernel; exact rfl; intro R; refine ⟨_, (by repeat constructor), ?_⟩;
             (first | (apply EvW.fieldAddr0; exact rfl; exact FldC.eq)))
        (apply Par.quiet _ [true, false, false]; exact rfl; decide +kernel; exact rfl; intro R; refine ⟨_, (by repeat constructor), ?_⟩;
             (first | (apply EvW.load; exact rfl; exact ScalC.eq; (focus ((repeat constructor); done)); exact rfl)))
        (apply Par.quiet _ [true, false, false]; exact rfl; decide +kernel; exact rfl; intro R; refine ⟨_, (by repeat constructor), ?_⟩;
             (first | (apply EvW.move; exact rfl)))
        (apply Par.new _ [false, false, false] [false, false, true] [true, false, false]; exact rfl; exact rfl; decide +kernel; intro R; refine ⟨_, _, _, (by repeat constructor), (by repeat constructor), (fun x => (by repeat constructor)), ?_⟩; (apply NewW.buildSlice; exact UndC.eq; exact SzC.eq; exact ZvC.eq; exact rfl; exact rfl; exact rfl; (focus ((repeat (first | exact Flat.nil | (apply Flat.one; (first | exact rfl | assumption)) | (apply Flat.cons; exact rfl; exact rfl))); done)); exact rfl; exact rfl; exact fun _ => rfl))
        apply Par.quiet _ [true, false, true]
        · exact rfl
        · decide +kernel
        · exact rfl
        · intro R
          refine ⟨_, (by repeat constructor), ?_⟩
          apply EvW.callK ([])
          · exact rfl
          · exact fun w => Try.call76 _ w
          · (focus ((repeat constructor); done))
          · exact fun w1 S1 hS1 hs1 ho1 => sq_lost_spec _ [m.num, m.num] w1 S1 hS1 ((ho1 _ _ (by repeat constructor)).blkRow rfl (fun k u h => by simpa using h) (by simp)) (by simp)
          · exact fun _ _ h => h
        (apply Par.quiet _ [true, false, true]; exact rfl; decide +kernel; exact rfl; intro R; refine ⟨_, (by repeat constructor), ?_⟩;
             (first | (apply EvW.arN; exact rfl; exact rfl; exact rfl; refine i64_in ?_ ?_ <;> omega)))
        (apply Par.quiet _ [true, false, true]; exact rfl; decide +kernel; exact rfl; intro R; refine ⟨_, (by repeat constructor), ?_⟩;
             (first | (apply EvW.nilPtr; exact rfl)))
        (apply Par.quiet _ [true, false, true]; exact rfl; decide +kernel; exact rfl; intro R; refine ⟨_, (by repeat constructor), ?_⟩;
             (first | (apply EvW.fieldAddr0; exact rfl; exact FldC.eq)))
        (apply Par.eff _ [true, false, false] [false, true, false] [false, false, true]; exact rfl; exact rfl; decide +kernel; intro R; refine ⟨_, _, _, (by repeat constructor), (by repeat constructor), (by repeat constructor), ?_⟩; (apply EffW.store; exact rfl; exact rfl; (first | assumption | exact rfl); exact SzC.eq; (first | assumption | exact rfl); (focus ((repeat constructor); done))))
        exact Par.nil
      · repeat (first | exact AllN.nil | (apply AllN.cons; (intro c x; (repeat (first | exact IndA.nil | (apply IndA.skip; decide +kernel) | apply IndA.same))))) 
      · repeat (first | exact AllN.nil | (apply AllN.cons; (intro c x; (repeat (first | exact IndT.nil | (apply IndT.skip; decide +kernel) | apply IndT.same))))) 
      · exact fun _ => rfl
      intro c
      refine ⟨_, (by repeat constructor), ?_⟩
      apply WE.writ
      · (focus ((repeat (first | exact Writ.nil | apply Writ.some | apply Writ.none)); done))
      generalize (c 9).1 = b9
      rw [hls, Int.add_zero]
      repeat first
        | (apply WL.q; exact rfl; exact rfl; exact rfl; (first | (apply EvW.move; exact rfl) | (apply EvW.nilPtr; exact rfl) | (apply EvW.fieldAddr0; exact rfl; exact FldC.eq)))
        | refine WC.region ?_ | refine WL.nil ?_ | refine WE.next ?_ | (apply WL.store; exact rfl; exact rfl; (first | assumption | exact rfl); exact SzC.eq; (first | assumption | exact rfl); (focus ((repeat constructor); done)))
      refine WE.keep (xs := [.blk b #[i64 (Rcv.mk s m.lost m.num m.peer m.age).last, i64 (Rcv.mk s m.lost m.num m.peer m.age).lost, i64 (Rcv.mk s m.lost m.num m.peer m.age).num, i64 (Rcv.mk s m.lost m.num m.peer m.age).peer, i64 (Rcv.mk s m.lost m.num m.peer m.age).age] 85]) (by repeat constructor) ?_
      first | refine WE.end0 rfl ?_ | refine WE.ret0 rfl ?_
      exact ⟨rfl, rfl⟩
  · rw [if_neg hl]
    repeat first
      | (apply WL.q; exact rfl; exact rfl; exact rfl; (first | (apply EvW.move; exact rfl) | (apply EvW.nilPtr; exact rfl) | (apply EvW.fieldAddr0; exact rfl; exact FldC.eq) | (apply EvW.load; exact rfl; exact ScalC.eq; (focus ((repeat constructor); done)); exact rfl) | (apply EvW.cmpF; exact rfl; exact rfl; exact rfl; omega) | (apply EvW.pickF; exact rfl; exact rfl)))
      | refine WC.seq ?_ | refine WC.region ?_ | refine WL.nil ?_ | refine WE.next ?_ | refine WC.skip ?_ | refine WC.condF rfl ?_ | refine WL.unwanted rfl rfl rfl rfl ?_ | (apply WL.store; exact rfl; exact rfl; (first | assumption | exact rfl); exact SzC.eq; (first | assumption | exact rfl); (focus ((repeat constructor); done)))
    refine WE.keep (xs := [.blk b #[i64 (Rcv.mk s m.lost n m.peer m.age).last, i64 (Rcv.mk s m.lost n m.peer m.age).lost, i64 (Rcv.mk s m.lost n m.peer m.age).num, i64 (Rcv.mk s m.lost n m.peer m.age).peer, i64 (Rcv.mk s m.lost n m.peer m.age).age] 85]) (by repeat constructor) ?_
    first | refine WE.end0 rfl ?_ | refine WE.ret0 rfl ?_
    exact ⟨rfl, rfl⟩
theorem ltake_spec (b : Nat) (m : Rcv) (now : Int) (l : List UInt8) (x : Said) (e : Int) (w : World) (S : BSet) (hS : (sepL [.blk b #[i64 (m).last, i64 (m).lost, i64 (m).num, i64 (m).peer, i64 (m).age] 85]).sat S w) (hl : l.length ≤ 140737488355328) (h0 : 0 ≤ m.lost) (h1 : m.lost ≤ 4611686018427387904) (hw : now ≤ 9223372036854775807) (hr : readF l = (x, e)) :
    Tri Try.prog 29 #[ptr b 0, i64 now, str l] w S fun u A => u = .tuple #[str (takeF m now (x, e)).2.1, i64 (takeF m now (x, e)).2.2] ∧ A = [.blk b #[i64 ((takeF m now (x, e)).1).last, i64 ((takeF m now (x, e)).1).lost, i64 ((takeF m now (x, e)).1).num, i64 ((takeF m now (x, e)).1).peer, i64 ((takeF m now (x, e)).1).age] 85] := by
  refine Tri.enter (l := [ptr b 0, i64 now, str l]) Try.func29 rfl Try.ntmps29 rfl [(0, ptr b 0), (1, i64 now), (2, str l)] (subA rfl) hS ?_
  have hs := (readF_small hr).s
  unfold takeF
  dsimp only
  repeat first
    | (apply WL.q; exact rfl; exact rfl; exact rfl; (first | (apply EvW.move; exact rfl) | (apply EvW.assign; exact rfl)))
    | refine WC.seq ?_ | refine WC.region ?_ | refine WL.nil ?_ | refine WE.next ?_
  try refine WL.wanted rfl rfl rfl ?_
  apply WL.callA ([])
  · exact rfl
  · exact rfl
  · exact fun w => Try.call57 _ w
  · (focus ((repeat constructor); done))
  · exact fun w1 S1 hS1 hs1 ho1 => read_spec' l (x, e) w1 S1 hS1 hl hr
  rintro _ _ ⟨rfl, rfl⟩
  first | refine WL.app4 ?_ | refine WL.app3 ?_ | refine WL.app2 ?_ | refine WL.app1 ?_ | refine WL.app0 ?_ | skip
  dsimp only
  by_cases he : e = 0
  rotate_left
  · rw [if_pos he]
    repeat first
      | (apply WL.q; exact rfl; exact rfl; exact rfl; (first | (apply EvW.move; exact rfl) | (apply EvW.assign; exact rfl) | (apply EvW.extract; exact rfl; exact rfl) | (apply EvW.cmpT; exact rfl; exact rfl; exact rfl; omega)))
      | refine WC.seq ?_ | refine WC.region ?_ | refine WL.nil ?_ | refine WE.next ?_ | refine WC.block ?_ | refine WC.condT rfl ?_ | refine WC.ret ?_ | refine WE.passRet ?_ | refine WE.outRet ?_
    refine WE.retN (l := [6, 7]) rfl rfl rfl ?_
    exact ⟨rfl, rfl⟩
  rw [if_neg (fun h => h he)]
  by_cases hp : x.p = m.peer
  rotate_left
  · rw [if_pos hp]
    repeat first
      | (apply WL.q; exact rfl; exact rfl; exact rfl; (first | (apply EvW.move; exact rfl) | (apply EvW.assign; exact rfl) | (apply EvW.nilPtr; exact rfl) | (apply EvW.fieldAddr0; exact rfl; exact FldC.eq) | (apply EvW.load; exact rfl; exact ScalC.eq; (focus ((repeat constructor); done)); exact rfl) | (apply EvW.extract; exact rfl; exact rfl) | (apply EvW.cmpT; exact rfl; exact rfl; exact rfl; omega) | (apply EvW.cmpF; exact rfl; exact rfl; exact rfl; omega)))
      | refine WC.seq ?_ | refine WC.region ?_ | refine WL.nil ?_ | refine WE.next ?_ | refine WC.block ?_ | refine WC.condT rfl ?_ | refine WC.condF rfl ?_ | refine WC.ret ?_ | refine WE.passRet ?_ | refine WE.outRet ?_
    refine WE.retN (l := [6, 7]) rfl rfl rfl ?_
    exact ⟨rfl, rfl⟩
  rw [if_neg (fun h => h hp)]
  by_cases hn : now < x.s
  · rw [if_pos hn]
    repeat first
      | (apply WL.q; exact rfl; exact rfl; exact rfl; (first | (apply EvW.move; exact rfl) | (apply EvW.assign; exact rfl) | (apply EvW.nilPtr; exact rfl) | (apply EvW.fieldAddr0; exact rfl; exact FldC.eq) | (apply EvW.load; exact rfl; exact ScalC.eq; (focus ((repeat constructor); done)); exact rfl) | (apply EvW.extract; exact rfl; exact rfl) | (apply EvW.cmpT; exact rfl; exact rfl; exact rfl; omega) | (apply EvW.cmpF; exact rfl; exact rfl; exact rfl; omega)))
      | refine WC.seq ?_ | refine WC.region ?_ | refine WL.nil ?_ | refine WE.next ?_ | refine WC.block ?_ | refine WC.condT rfl ?_ | refine WC.condF rfl ?_ | refine WC.ret ?_ | refine WE.passRet ?_ | refine WE.outRet ?_
    refine WE.retN (l := [6, 7]) rfl rfl rfl ?_
    exact ⟨rfl, rfl⟩
  rw [if_neg hn]
  by_cases ha : m.age < now - x.s
  · rw [if_pos ha]
    repeat first
      | (apply WL.q; exact rfl; exact rfl; exact rfl; (first | (apply EvW.move; exact rfl) | (apply EvW.assign; exact rfl) | (apply EvW.nilPtr; exact rfl) | (apply EvW.fieldAddr0; exact rfl; exact FldC.eq) | (apply EvW.load; exact rfl; exact ScalC.eq; (focus ((repeat constructor); done)); exact rfl) | (apply EvW.extract; exact rfl; exact rfl) | (apply EvW.cmpT; exact rfl; exact rfl; exact rfl; omega) | (apply EvW.cmpF; exact rfl; exact rfl; exact rfl; omega) | (apply EvW.arN; exact rfl; exact rfl; exact rfl; refine i64_in ?_ ?_ <;> omega)))
      | refine WC.seq ?_ | refine WC.region ?_ | refine WL.nil ?_ | refine WE.next ?_ | refine WC.block ?_ | refine WC.condT rfl ?_ | refine WC.condF rfl ?_ | refine WC.ret ?_ | refine WE.passRet ?_ | refine WE.outRet ?_
    refine WE.retN (l := [6, 7]) rfl rfl rfl ?_
    exact ⟨rfl, rfl⟩
  rw [if_neg ha]
  by_cases hz : x.s ≤ m.last
  · rw [if_pos hz]
    repeat first
      | (apply WL.q; exact rfl; exact rfl; exact rfl; (first | (apply EvW.move; exact rfl) | (apply EvW.assign; exact rfl) | (apply EvW.nilPtr; exact rfl) | (apply EvW.fieldAddr0; exact rfl; exact FldC.eq) | (apply EvW.load; exact rfl; exact ScalC.eq; (focus ((repeat constructor); done)); exact rfl) | (apply EvW.extract; exact rfl; exact rfl) | (apply EvW.cmpT; exact rfl; exact rfl; exact rfl; omega) | (apply EvW.cmpF; exact rfl; exact rfl; exact rfl; omega) | (apply EvW.arN; exact rfl; exact rfl; exact rfl; refine i64_in ?_ ?_ <;> omega)))
      | refine WC.seq ?_ | refine WC.region ?_ | refine WL.nil ?_ | refine WE.next ?_ | refine WC.block ?_ | refine WC.condT rfl ?_ | refine WC.condF rfl ?_ | refine WC.ret ?_ | refine WE.passRet ?_ | refine WE.outRet ?_
    refine WE.retN (l := [6, 7]) rfl rfl rfl ?_
    exact ⟨rfl, rfl⟩
  rw [if_neg hz]
  repeat first
    | (apply WL.q; exact rfl; exact rfl; exact rfl; (first | (apply EvW.move; exact rfl) | (apply EvW.assign; exact rfl) | (apply EvW.nilPtr; exact rfl) | (apply EvW.fieldAddr0; exact rfl; exact FldC.eq) | (apply EvW.load; exact rfl; exact ScalC.eq; (focus ((repeat constructor); done)); exact rfl) | (apply EvW.extract; exact rfl; exact rfl) | (apply EvW.cmpF; exact rfl; exact rfl; exact rfl; omega) | (apply EvW.arN; exact rfl; exact rfl; exact rfl; refine i64_in ?_ ?_ <;> omega)))
    | refine WC.seq ?_ | refine WC.region ?_ | refine WL.nil ?_ | refine WE.next ?_ | refine WC.block ?_ | refine WC.skip ?_ | refine WE.out ?_ | refine WC.condF rfl ?_
  try refine WL.wanted rfl rfl rfl ?_
  apply WL.callA ([.blk b #[i64 (m).last, i64 (m).lost, i64 (m).num, i64 (m).peer, i64 (m).age] 85])
  · exact rfl
  · exact rfl
  · exact fun w => Try.call58 _ w
  · (focus ((repeat constructor); done))
  · exact fun w1 S1 hS1 hs1 ho1 => note_spec' b m x.n x.s w1 S1 hS1 h0 h1
  rintro _ _ ⟨rfl, rfl⟩
  first | refine WL.app4 ?_ | refine WL.app3 ?_ | refine WL.app2 ?_ | refine WL.app1 ?_ | refine WL.app0 ?_ | skip
  repeat first
    | (apply WL.q; exact rfl; exact rfl; exact rfl; (first | (apply EvW.move; exact rfl) | (apply EvW.assign; exact rfl)))
    | refine WC.seq ?_ | refine WC.region ?_ | refine WL.nil ?_ | refine WE.next ?_ | refine WC.ret ?_
  refine WE.retN (l := [6, 7]) rfl rfl rfl ?_
  exact ⟨rfl, rfl⟩
theorem last_spec (b : Nat) (m : Rcv) (w : World) (S : BSet) (hS : (sepL [.blk b #[i64 (m).last, i64 (m).lost, i64 (m).num, i64 (m).peer, i64 (m).age] 85]).sat S w)  :
    Tri Try.prog 31 #[ptr b 0] w S fun u A => u = i64 m.last ∧ A = [.blk b #[i64 (m).last, i64 (m).lost, i64 (m).num, i64 (m).peer, i64 (m).age] 85] := by
  refine Tri.enter (l := [ptr b 0]) Try.func31 rfl Try.ntmps31 rfl [(0, ptr b 0)] (subA rfl) hS ?_
  repeat first
    | (apply WL.q; exact rfl; exact rfl; exact rfl; (first | (apply EvW.move; exact rfl) | (apply EvW.assign; exact rfl) | (apply EvW.nilPtr; exact rfl) | (apply EvW.fieldAddr0; exact rfl; exact FldC.eq) | (apply EvW.load; exact rfl; exact ScalC.eq; (focus ((repeat constructor); done)); exact rfl)))
    | refine WC.seq ?_ | refine WC.region ?_ | refine WL.nil ?_ | refine WE.next ?_ | refine WC.ret ?_
  refine WE.ret1 rfl rfl ?_
  exact ⟨rfl, rfl⟩
theorem newReceiver_spec (p a : Int) (w : World) (S : BSet) (hS : (sepL []).sat S w)  :
    Tri Try.prog 27 #[i64 p, i64 a] w S fun u A => ∃ b, u = ptr b 0 ∧ A = [.blk b #[i64 (Rcv.new p a).last, i64 (Rcv.new p a).lost, i64 (Rcv.new p a).num, i64 (Rcv.new p a).peer, i64 (Rcv.new p a).age] 85] := by
  refine Tri.enter (l := [i64 p, i64 a]) Try.func27 rfl Try.ntmps27 rfl [(0, i64 p), (1, i64 a)] (subA rfl) hS ?_
  repeat first
    | (apply WL.q; exact rfl; exact rfl; exact rfl; (first | (apply EvW.move; exact rfl) | (apply EvW.assign; exact rfl) | (apply EvW.build; exact PlC.eq; exact ZvC.eq; exact rfl; exact rfl; (focus ((repeat (first | exact Fills.nil | (apply Fills.cons; exact rfl; (first | assumption | exact rfl); exact rfl) | exact SetMany.nil | apply SetMany.cons | apply SetMany.succ)); done)))))
    | refine WC.seq ?_ | refine WC.region ?_ | refine WL.nil ?_ | refine WE.next ?_
  try refine WL.wanted rfl rfl rfl ?_
  (apply WL.box; exact rfl; exact rfl; exact rfl; intro b)
  repeat first
    | (apply WL.q; exact rfl; exact rfl; exact rfl; (first | (apply EvW.assign; exact rfl)))
    | refine WL.nil ?_ | refine WE.next ?_ | refine WC.ret ?_
  refine WE.ret1 rfl rfl ?_
  exact ⟨b, rfl, rfl⟩
end Go.Proofs.Ytamofjpadnnppaa
namespace Go.Proofs.Ytamofjpadnnppaa
open Go.RowKit Go.BK
def numsF (m : Rcv) (now : Int) (r : Said × Int) (ns : List Int) : List Int := if (takeF m now r).2.2 = 0 then ns ++ [r.1.n] else ns
theorem note_last (m : Rcv) (n s : Int) : (m.note n s).last = s := by unfold Rcv.note; split <;> rfl
end Go.Proofs.Ytamofjpadnnppaa
namespace Go.BK
open Go.RowKit
section
variable {P : Program} {w0 : World} {S0 : BSet} {n : Nat} {F : Fr} {A : List HP} {dd : Option Tmp} {T : TypeId} {pos : String} {af : Array Edge} {x y : Operand} {t ty : TypeId} {g : Option (Nat × Bool)}
theorem runForYield {α β : Type} {w : World} {body : α → β → Sem (ForInStep β)} {s : β} : ∀ (l : List α), (∀ f ∈ l, (body f s).run P w = .ok (.yield s) w) → (forIn l s body).run P w = .ok s w
  | [], _ => by simp
  | f :: l, h => by
    rw [List.forIn_cons]
    simp only [Sem.run_bind, h f (by simp), Result.andThen]
    exact runForYield l fun g hg => h g (by simp [hg])
end
end Go.BK
namespace Go.BK
open Go.RowKit Go.MapKept
section
variable {P : Program} {w0 : World} {S0 : BSet} {n : Nat} {F : Fr} {A : List HP} {dd : Option Tmp} {T : TypeId} {pos : String} {af : Array Edge} {x y : Operand} {t ty : TypeId} {g : Option (Nat × Bool)} {ops : Array Oper} {rest : List Oper} {Q : Exit → Act → World → Prop} {d : Tmp}
theorem runEqSlNil {w : World} {e : TypeId} {p : Option Addr} {l c l2 c2 : Nat} (hu : P.underlying t = some (.slice e)) : (Op.equal t (.slice p l c) (.slice none l2 c2)).run P w = .ok p.isNone w := by
  have key : ∀ d, (Op.equalIn (d + 1) t (.slice p l c) (.slice none l2 c2)).run P w = .ok p.isNone w := fun d => by
    rw [Op.equalIn]
    simp only [Sem.run_bind, run_underlying hu, Result.andThen]
    cases p <;> rfl
  exact key 9999
/-- A slice against nil. -/
theorem EvW.eqNilT {l c l2 c2 : Nat} {e : TypeId} (hx : ev F x = some (.slice none l c)) (hy : ev F y = some (.slice none l2 c2)) (hu : P.underlying t = some (.slice e)) : EvW P w0 S0 n F A ⟨dd, .binOp .eql t x y ty, T, pos, af, g⟩ (.bool true) :=
  .pure fun a' w ha _ => by simp [execOp, ha.eval hx, ha.eval hy, eqGuard, binOp, runEqSlNil hu]
theorem EvW.eqNilF {l c l2 c2 : Nat} {a : Addr} {e : TypeId} (hx : ev F x = some (.slice (some a) l c)) (hy : ev F y = some (.slice none l2 c2)) (hu : P.underlying t = some (.slice e)) : EvW P w0 S0 n F A ⟨dd, .binOp .eql t x y ty, T, pos, af, g⟩ (.bool false) :=
  .pure fun a' w ha _ => by simp [execOp, ha.eval hx, ha.eval hy, eqGuard, binOp, runEqSlNil hu]
theorem flat_len {α : Type} {f : α → List Value} {sz : Nat} (hf : ∀ a, (f a).length = sz) : ∀ xs : List α, (xs.flatMap f).length = xs.length * sz
  | [] => by simp
  | x :: xs => by rw [List.flatMap_cons, List.length_append, hf, flat_len hf xs, List.length_cons, Nat.succ_mul, Nat.add_comm]
theorem EvW.ldElemOwn {α : Type} {xs : List α} {f : α → List Value} {z : α} {v : Value} {i sz len : Nat} {ee : TypeId} {r : List HP} (hx : ev F x = some (elemP sz v i 0)) (hs : aggB P t = true) (hm : szB P t = some sz) (hpos : Nat.ble 1 sz = true) (hf : ∀ a, (f a).length = sz) (ht : Take (.own ee sz v len (xs.flatMap f)) A r) (hi : i < xs.length) :
    EvW P w0 S0 n F A ⟨dd, .load t x, T, pos, af, g⟩ (.agg (f (xs.getD i z)).toArray) :=
  .pure fun a' w ha hst => by
    obtain ⟨R, hR⟩ := hst.take ht
    have hl : i * sz + 0 + sz ≤ (xs.flatMap f).length := by
      rw [flat_len hf]
      calc i * sz + 0 + sz = (i + 1) * sz := by rw [Nat.add_mul]; omega
        _ ≤ xs.length * sz := Nat.mul_le_mul_right _ hi
    have hg := flat_get (z := z) hf hi
    generalize f (xs.getD i z) = out at hg
    simp [execOp, ha.eval hx, runLoadAggAt hs hm (Nat.le_of_ble_eq_true hpos) (own_row hR) hg hl]
end
end Go.BK
namespace Go.BK
open Go.RowKit Go.MapKept
section
variable {P : Program} {w0 : World} {S0 : BSet} {n : Nat} {F : Fr} {A : List HP} {dd : Option Tmp} {T : TypeId} {pos : String} {af : Array Edge} {x y : Operand} {t ty : TypeId} {g : Option (Nat × Bool)} {ops : Array Oper} {rest : List Oper} {Q : Exit → Act → World → Prop} {d : Tmp}
end
/-- Cells from a place on, of which the length is that of a list. -/
theorem SubL.all : ∀ (xs r : List Value), SubL (xs ++ r) 0 xs.length xs
  | [], _ => .nil
  | _ :: xs, r => .cons (SubL.all xs r)
theorem SetMany.all : ∀ (ys xs r : List Value), ys.length = xs.length → SetMany (ys ++ r) 0 xs (xs ++ r)
  | [], [], _, _ => .nil
  | [], _ :: _, _, h => by simp at h
  | _ :: _, [], _, h => by simp at h
  | _ :: ys, _ :: xs, r, h => .cons (SetMany.all ys xs r (by simpa using h))
end Go.BK
namespace Go.BK
open Go.RowKit
section
variable {P : Program} {w0 : World} {S0 : BSet} {n : Nat} {F : Fr} {A A' r r' : List HP} {dd : Option Tmp} {T : TypeId} {pos : String} {af : Array Edge} {x y : Operand} {t ty : TypeId} {g : Option (Nat × Bool)} {ops : Array Oper} {rest : List Oper} {Q : Exit → Act → World → Prop} {L L' : List HP} {z : HP}
theorem take_at : ∀ {L : List HP} {i : Nat} {z : HP}, L[i]? = some z → Take z L (L.eraseIdx i)
  | [], _, _, h => by simp at h
  | a :: L, 0, z, h => by simp at h; subst h; exact .head
  | a :: L, i + 1, z, h => .tail (take_at (by simpa using h))
theorem take_set : ∀ {L : List HP} {i : Nat} (z : HP), i < L.length → Take z (L.set i z) (L.eraseIdx i)
  | [], _, _, h => by simp at h
  | a :: L, 0, z, _ => .head
  | a :: L, i + 1, z, h => .tail (take_set z (by simpa using h))
theorem St.out {w : World} (ht : Take (sepL L) A r) (hz : Take z L L') (h : St w0 S0 A w) : St w0 S0 (z :: sepL L' :: r) w :=
  h.mono fun _ _ hs => star_assoc (star_mono (ht.star hs) (fun _ h => hz.star h) fun _ h => h)
theorem St.back {w : World} (hz : Take z L L') (h : St w0 S0 (z :: sepL L' :: r) w) : St w0 S0 (sepL L :: r) w :=
  h.mono fun _ _ hs => star_mono (star_assoc' hs) (fun _ h => hz.unstar h) fun _ h => h
theorem WL.out (ht : Take (sepL L) A r) (hz : Take z L L') (kk : WL P w0 S0 n ops Q rest F (z :: sepL L' :: r)) : WL P w0 S0 n ops Q rest F A := kk.conv fun _ hs => St.out ht hz hs
theorem WC.out {c : Code} (ht : Take (sepL L) A r) (hz : Take z L L') (kk : WC P w0 S0 n c Q F (z :: sepL L' :: r)) : WC P w0 S0 n c Q F A := kk.conv fun _ hs => St.out ht hz hs
theorem WE.back {e : Exit} (h : TakeL [z, sepL L'] A r) (hz : Take z L L') (kk : WE w0 S0 n Q e F (sepL L :: r)) : WE w0 S0 n Q e F A := kk.conv fun _ hs => St.back hz (hs.mono fun _ _ h' => sepL_append (A := [z, sepL L']) (h.star h'))
end
end Go.BK
namespace Go.Proofs.Ytamofjpadnnppaa
open Go.RowKit Go.BK
instance : Inhabited Q4 := ⟨⟨.slice none 0 0, .slice none 0 0, .slice none 0 0, .slice none 0 0, [], [], [], []⟩⟩
instance : Inhabited Rcv := ⟨Rcv.new 0 0⟩
/-- A voice: its block, its receiver's, what was taken, which elements it has, what it said, when. -/
structure Voice where
  b : Nat
  r : Nat
  rc : Rcv
  sh : Q4
  sd : Q4
  stamp : Int
instance : Inhabited Voice := ⟨⟨0, 0, default, default, default, -1⟩⟩
structure Voice.Seen (v : Voice) (w : World) (S : BSet) : Prop where
  blk : Sees w S (.blk (v).b #[ptr (v).r 0, (v).sh.a, (v).sh.b, (v).sh.y, (v).sh.d, (v).sd.a, (v).sd.b, (v).sd.y, (v).sd.d, i64 (v).stamp] 78)
  rcv : Sees w S (.blk v.r #[i64 (v.rc).last, i64 (v.rc).lost, i64 (v.rc).num, i64 (v.rc).peer, i64 (v.rc).age] 85)
  sh : v.sh.Seen w S
  sd : v.sd.Seen w S
theorem Voice.Seen.down {v : Voice} {w w' : World} {S S' : BSet} (h : v.Seen w S) (k : ∀ B, Sees w S B → Sees w' S' B) : v.Seen w' S' := ⟨k _ h.blk, k _ h.rcv, h.sh.down k, h.sd.down k⟩
structure Img where
  b : Nat
  c : Cfg
  vv : Value
  vs : List Voice
def vPtr (v : Voice) : Value := ptr v.b 0
structure Img.Seen (x : Img) (w : World) (S : BSet) : Prop where
  blk : Sees w S (.blk (x).b #[(x).c.vS, (x).c.vJ, (x).c.vG, (x).c.vC, (x).c.vR, i64 (x).c.age, i64 (x).c.brake, i64 (x).c.hold, i64 (x).c.budget, (x).vv] 73)
  c : x.c.Seen w S
  vv : Sees w S (.row 1 x.vv 4 (x.vs.map vPtr))
  len : x.vs.length = 4
  v : ∀ k, k < 4 → ((x.vs.getD k default)).Seen w S
theorem Img.Seen.down {x : Img} {w w' : World} {S S' : BSet} (h : x.Seen w S) (k : ∀ B, Sees w S B → Sees w' S' B) : x.Seen w' S' := ⟨k _ h.blk, h.c.down k, k _ h.vv, h.len, fun i hi => (h.v i hi).down k⟩
theorem getD_some {α : Type} {l : List α} {d : α} {i : Nat} (h : i < l.length) : l[i]? = some (l.getD i d) := by
  rw [List.getD_eq_getElem?_getD, List.getElem?_eq_getElem h]; rfl
theorem Img.at {x : Img} {k : Nat} (h : k < x.vs.length) : (x.vs.map vPtr)[k * 1 + 0]? = some (ptr ((x.vs.getD k default)).b 0) := by
  rw [Nat.mul_one, Nat.add_zero, List.getElem?_map, getD_some (d := default) h]; rfl
def freshF (st now age : Int) : Bool := decide (0 ≤ st) && (decide (st ≤ now) && decide (now - st ≤ age))
/-- Is a controller heard? -/
def aliveP (st : Int → Int) (now age oc : Int) : Bool := decide (0 ≤ oc) && (decide (oc < 4) && freshF (st oc) now age)
def Img.st (x : Img) (oc : Int) : Int := ((x.vs.getD oc.toNat default)).stamp
theorem aliveP_out {st : Int → Int} {now age oc : Int} (h : ¬ (0 ≤ oc ∧ oc < 4)) : aliveP st now age oc = false := by
  unfold aliveP
  by_cases h0 : 0 ≤ oc
  · rw [decide_eq_false (show ¬ oc < 4 from fun k => h ⟨h0, k⟩), Bool.false_and, Bool.and_false]
  · rw [decide_eq_false h0, Bool.false_and]
theorem aliveP_in {st : Int → Int} {now age oc : Int} (h : 0 ≤ oc ∧ oc < 4) : aliveP st now age oc = freshF (st oc) now age := by
  unfold aliveP
  rw [decide_eq_true h.1, decide_eq_true h.2, Bool.true_and, Bool.true_and]
theorem freshI_spec (v : Voice) (now age : Int) (g : Bool) (w : World) (S : BSet) (hS : (sepL []).sat S w) (hv : Sees w S (.blk (v).b #[ptr (v).r 0, (v).sh.a, (v).sh.b, (v).sh.y, (v).sh.d, (v).sd.a, (v).sd.b, (v).sd.y, (v).sd.d, i64 (v).stamp] 78)) (hw : now ≤ 9223372036854775807) (hg : freshF v.stamp now age = g) :
    Tri Try.prog 46 #[ptr v.b 0, i64 now, i64 age] w S fun u A => u = .bool g ∧ A = [] := by
  refine Tri.enter (l := [ptr v.b 0, i64 now, i64 age]) Try.func46 rfl Try.ntmps46 rfl [(0, ptr v.b 0), (1, i64 now), (2, i64 age)] (subA rfl) hS ?_
  subst hg
  unfold freshF
  by_cases h1 : 0 ≤ v.stamp
  · by_cases h2 : v.stamp ≤ now
    · rw [decide_eq_true h1, decide_eq_true h2, Bool.true_and, Bool.true_and]
      repeat first
        | (apply WL.q; exact rfl; exact rfl; exact rfl; (first | (apply EvW.move; exact rfl) | (apply EvW.assign; exact rfl) | (apply EvW.nilPtr; exact rfl) | (apply EvW.fieldAddr0; exact rfl; exact FldC.eq) | (apply EvW.ldSeen; exact rfl; exact ScalC.eq; assumption; (first | exact rfl | assumption)) | (apply EvW.cmpT; exact rfl; exact rfl; exact rfl; omega) | (apply EvW.cmp; exact rfl; exact rfl; exact rfl) | (apply EvW.arN; exact rfl; exact rfl; exact rfl; refine i64_in ?_ ?_ <;> omega) | (apply EvW.pickT; exact rfl; exact rfl)))
        | refine WC.seq ?_ | refine WC.region ?_ | refine WL.nil ?_ | refine WE.next ?_ | refine WC.ret ?_ | refine WL.wanted rfl rfl rfl ?_
      refine WE.ret1 rfl rfl ?_
      exact ⟨rfl, rfl⟩
    · rw [decide_eq_true h1, decide_eq_false h2]
      repeat first
        | (apply WL.q; exact rfl; exact rfl; exact rfl; (first | (apply EvW.move; exact rfl) | (apply EvW.assign; exact rfl) | (apply EvW.nilPtr; exact rfl) | (apply EvW.fieldAddr0; exact rfl; exact FldC.eq) | (apply EvW.ldSeen; exact rfl; exact ScalC.eq; assumption; (first | exact rfl | assumption)) | (apply EvW.cmpT; exact rfl; exact rfl; exact rfl; omega) | (apply EvW.cmpF; exact rfl; exact rfl; exact rfl; omega) | (apply EvW.pickT; exact rfl; exact rfl) | (apply EvW.pickF; exact rfl; exact rfl)))
        | refine WC.seq ?_ | refine WC.region ?_ | refine WL.nil ?_ | refine WE.next ?_ | refine WC.ret ?_ | refine WL.wanted rfl rfl rfl ?_ | refine WL.unwanted rfl rfl rfl rfl ?_
      refine WE.ret1 rfl rfl ?_
      exact ⟨rfl, rfl⟩
  · rw [decide_eq_false h1]
    repeat first
      | (apply WL.q; exact rfl; exact rfl; exact rfl; (first | (apply EvW.move; exact rfl) | (apply EvW.assign; exact rfl) | (apply EvW.nilPtr; exact rfl) | (apply EvW.fieldAddr0; exact rfl; exact FldC.eq) | (apply EvW.ldSeen; exact rfl; exact ScalC.eq; assumption; (first | exact rfl | assumption)) | (apply EvW.cmpF; exact rfl; exact rfl; exact rfl; omega) | (apply EvW.pickF; exact rfl; exact rfl)))
      | refine WC.seq ?_ | refine WC.region ?_ | refine WL.nil ?_ | refine WE.next ?_ | refine WC.ret ?_ | refine WL.unwanted rfl rfl rfl rfl ?_
    refine WE.ret1 rfl rfl ?_
    exact ⟨rfl, rfl⟩
theorem aliveI_spec (x : Img) (now oc : Int) (g : Bool) (w : World) (S : BSet) (hS : (sepL []).sat S w) (hx : x.Seen w S) (hw : now ≤ 9223372036854775807) (hg : aliveP x.st now x.c.age oc = g) :
    Tri Try.prog 15 #[ptr x.b 0, i64 now, i64 oc] w S fun u A => u = .bool g ∧ A = [] := by
  refine Tri.enter (l := [ptr x.b 0, i64 now, i64 oc]) Try.func15 rfl Try.ntmps15 rfl [(0, ptr x.b 0), (1, i64 now), (2, i64 oc)] (subA rfl) hS ?_
  have hB := hx.blk
  have hV := hx.vv
  by_cases h0 : 0 ≤ oc
  · by_cases h4 : oc < (4 : Nat)
    · have hf : freshF ((x.vs.getD oc.toNat default)).stamp now x.c.age = g := by rw [← hg, aliveP_in ⟨h0, h4⟩]; rfl
      have hk := hx.v oc.toNat (by omega)
      have hat := Img.at (x := x) (k := oc.toNat) (by rw [hx.len]; omega)
      repeat first
        | (apply WL.q; exact rfl; exact rfl; exact rfl; (first | (apply EvW.assign; exact rfl)))
        | refine WC.seq ?_ | refine WC.region ?_ | refine WL.nil ?_ | refine WE.next ?_
      repeat refine WC.seq ?_
      refine WC.keep (xs := []) (by repeat constructor) ?_
      apply WC.par _ (fun c : Ch => []) [] [] [] Try.mixed
      · (focus ((repeat (first | exact Restr.nil | (apply Restr.keep; exact rfl; exact rfl) | (apply Restr.drop; exact rfl))); done))
      · intro c; exact (by repeat constructor)
      · exact rfl
      · decide +kernel
      · decide +kernel
      · intro c
        (apply Par.quiet _ []; exact rfl; decide +kernel; exact rfl; intro R; refine ⟨_, (by repeat constructor), ?_⟩;
             (first | (apply EvW.move; exact rfl)))
        (apply Par.quiet _ []; exact rfl; decide +kernel; exact rfl; intro R; refine ⟨_, (by repeat constructor), ?_⟩;
             (first | (apply EvW.cmpT; exact rfl; exact rfl; exact rfl; omega)))
        (apply Par.quiet _ []; exact rfl; decide +kernel; exact rfl; intro R; refine ⟨_, (by repeat constructor), ?_⟩;
             (first | (apply EvW.move; exact rfl)))
        first
          | (apply Par.skip; exact rfl; decide +kernel; exact rfl)
          | (apply Par.quiet _ []; exact rfl; decide +kernel; exact rfl; intro R; refine ⟨_, (by repeat constructor), ?_⟩;
             (first | (apply EvW.move; exact rfl)))
        first
          | (apply Par.skip; exact rfl; decide +kernel; exact rfl)
          | (apply Par.quiet _ []; exact rfl; decide +kernel; exact rfl; intro R; refine ⟨_, (by repeat constructor), ?_⟩;
             (first | (apply EvW.move; exact rfl)))
        first
          | (apply Par.skip; exact rfl; decide +kernel; exact rfl)
          | (apply Par.quiet _ []; exact rfl; decide +kernel; exact rfl; intro R; refine ⟨_, (by repeat constructor), ?_⟩;
             (first | (apply EvW.nilPtr; exact rfl)))
        first
          | (apply Par.skip; exact rfl; decide +kernel; exact rfl)
          | (apply Par.quiet _ []; exact rfl; decide +kernel; exact rfl; intro R; refine ⟨_, (by repeat constructor), ?_⟩;
             (first | (apply EvW.fieldAddr0; exact rfl; exact FldC.eq)))
        first
          | (apply Par.skip; exact rfl; decide +kernel; exact rfl)
          | (apply Par.quiet _ []; exact rfl; decide +kernel; exact rfl; intro R; refine ⟨_, (by repeat constructor), ?_⟩;
             (first | (apply EvW.ldSeen; exact rfl; exact ScalC.eq; assumption; (first | exact rfl | assumption))))
        first
          | (apply Par.skip; exact rfl; decide +kernel; exact rfl)
          | (apply Par.quiet _ []; exact rfl; decide +kernel; exact rfl; intro R; refine ⟨_, (by repeat constructor), ?_⟩;
             (first | (apply EvW.lenRow; exact rfl; exact UndC.eq; assumption)))
        first
          | (apply Par.skip; exact rfl; decide +kernel; exact rfl)
          | (apply Par.quiet _ []; exact rfl; decide +kernel; exact rfl; intro R; refine ⟨_, (by repeat constructor), ?_⟩;
             (first | (apply EvW.cmpT; exact rfl; exact rfl; exact rfl; omega)))
        (apply Par.quiet _ []; exact rfl; decide +kernel; exact rfl; intro R; refine ⟨_, (by repeat constructor), ?_⟩;
             (first | (apply EvW.pickT; exact rfl; exact rfl)))
        (apply Par.quiet _ []; exact rfl; decide +kernel; exact rfl; intro R; refine ⟨_, (by repeat constructor), ?_⟩;
             (first | (apply EvW.move; exact rfl)))
        first
          | (apply Par.skip; exact rfl; decide +kernel; exact rfl)
          | (apply Par.quiet _ []; exact rfl; decide +kernel; exact rfl; intro R; refine ⟨_, (by repeat constructor), ?_⟩;
             (first | (apply EvW.move; exact rfl)))
        first
          | (apply Par.skip; exact rfl; decide +kernel; exact rfl)
          | (apply Par.quiet _ []; exact rfl; decide +kernel; exact rfl; intro R; refine ⟨_, (by repeat constructor), ?_⟩;
             (first | (apply EvW.nilPtr; exact rfl)))
        first
          | (apply Par.skip; exact rfl; decide +kernel; exact rfl)
          | (apply Par.quiet _ []; exact rfl; decide +kernel; exact rfl; intro R; refine ⟨_, (by repeat constructor), ?_⟩;
             (first | (apply EvW.fieldAddr0; exact rfl; exact FldC.eq)))
        first
          | (apply Par.skip; exact rfl; decide +kernel; exact rfl)
          | (apply Par.quiet _ []; exact rfl; decide +kernel; exact rfl; intro R; refine ⟨_, (by repeat constructor), ?_⟩;
             (first | (apply EvW.ldSeen; exact rfl; exact ScalC.eq; assumption; (first | exact rfl | assumption))))
        first
          | (apply Par.skip; exact rfl; decide +kernel; exact rfl)
          | (apply Par.quiet _ []; exact rfl; decide +kernel; exact rfl; intro R; refine ⟨_, (by repeat constructor), ?_⟩;
             (first | (apply EvW.move; exact rfl)))
        first
          | (apply Par.skip; exact rfl; decide +kernel; exact rfl)
          | (apply Par.quiet _ []; exact rfl; decide +kernel; exact rfl; intro R; refine ⟨_, (by repeat constructor), ?_⟩;
             (first | (apply EvW.idxRow; exact rfl; exact rfl; exact UndC.eq; exact SzC.eq; assumption; omega; omega)))
        apply Par.quiet _ []
        · exact rfl
        · decide +kernel
        · exact rfl
        · intro R
          refine ⟨_, (by repeat constructor), ?_⟩
          (apply EvW.ldRow (i := oc.toNat) (off := 0) (q := ptr ((x.vs.getD oc.toNat default)).b 0); exact rfl; exact ScalC.eq; assumption; exact hat)
        first
          | (apply Par.skip; exact rfl; decide +kernel; exact rfl)
          | (apply Par.quiet _ []; exact rfl; decide +kernel; exact rfl; intro R; refine ⟨_, (by repeat constructor), ?_⟩;
             (first | (apply EvW.move; exact rfl)))
        first
          | (apply Par.skip; exact rfl; decide +kernel; exact rfl)
          | (apply Par.quiet _ []; exact rfl; decide +kernel; exact rfl; intro R; refine ⟨_, (by repeat constructor), ?_⟩;
             (first | (apply EvW.move; exact rfl)))
        first
          | (apply Par.skip; exact rfl; decide +kernel; exact rfl)
          | (apply Par.quiet _ []; exact rfl; decide +kernel; exact rfl; intro R; refine ⟨_, (by repeat constructor), ?_⟩;
             (first | (apply EvW.nilPtr; exact rfl)))
        first
          | (apply Par.skip; exact rfl; decide +kernel; exact rfl)
          | (apply Par.quiet _ []; exact rfl; decide +kernel; exact rfl; intro R; refine ⟨_, (by repeat constructor), ?_⟩;
             (first | (apply EvW.fieldAddr0; exact rfl; exact FldC.eq)))
        first
          | (apply Par.skip; exact rfl; decide +kernel; exact rfl)
          | (apply Par.quiet _ []; exact rfl; decide +kernel; exact rfl; intro R; refine ⟨_, (by repeat constructor), ?_⟩;
             (first | (apply EvW.fieldAddr0; exact rfl; exact FldC.eq)))
        first
          | (apply Par.skip; exact rfl; decide +kernel; exact rfl)
          | (apply Par.quiet _ []; exact rfl; decide +kernel; exact rfl; intro R; refine ⟨_, (by repeat constructor), ?_⟩;
             (first | (apply EvW.fieldAddr; exact rfl; exact FldC.eq)))
        first
          | (apply Par.skip; exact rfl; decide +kernel; exact rfl)
          | (apply Par.quiet _ []; exact rfl; decide +kernel; exact rfl; intro R; refine ⟨_, (by repeat constructor), ?_⟩;
             (first | (apply EvW.ldSeen; exact rfl; exact ScalC.eq; assumption; (first | exact rfl | assumption))))
        apply Par.quiet _ []
        · exact rfl
        · decide +kernel
        · exact rfl
        · intro R
          refine ⟨_, (by repeat constructor), ?_⟩
          apply EvW.callK ([])
          · exact rfl
          · exact fun w => Try.call46 _ w
          · (focus ((repeat constructor); done))
          · exact fun w1 S1 hS1 hs1 ho1 => freshI_spec ((x.vs.getD oc.toNat default)) now x.c.age g w1 S1 hS1 (hs1 _ hk.blk) hw hf
          · exact fun _ _ h => h
        (apply Par.quiet _ []; exact rfl; decide +kernel; exact rfl; intro R; refine ⟨_, (by repeat constructor), ?_⟩;
             (first | (apply EvW.pickT; exact rfl; exact rfl)))
        (apply Par.quiet _ []; exact rfl; decide +kernel; exact rfl; intro R; refine ⟨_, (by repeat constructor), ?_⟩;
             (first | (apply EvW.assign; exact rfl)))
        exact Par.nil
      · repeat (first | exact AllN.nil | (apply AllN.cons; (intro c x; (repeat (first | exact IndA.nil | (apply IndA.skip; decide +kernel) | apply IndA.same))))) 
      · repeat (first | exact AllN.nil | (apply AllN.cons; (intro c x; (repeat (first | exact IndT.nil | (apply IndT.skip; decide +kernel) | apply IndT.same))))) 
      · exact fun _ => rfl
      intro c
      refine ⟨_, (by repeat constructor), ?_⟩
      apply WE.writ
      · (focus ((repeat (first | exact Writ.nil | apply Writ.some | apply Writ.none)); done))
      repeat first
        | refine WE.next ?_ | refine WC.ret ?_
      refine WE.ret1 rfl rfl ?_
      exact ⟨rfl, rfl⟩
    · rw [aliveP_out (fun h => h4 h.2)] at hg
      subst hg
      repeat first
        | (apply WL.q; exact rfl; exact rfl; exact rfl; (first | (apply EvW.assign; exact rfl)))
        | refine WC.seq ?_ | refine WC.region ?_ | refine WL.nil ?_ | refine WE.next ?_
      repeat refine WC.seq ?_
      refine WC.keep (xs := []) (by repeat constructor) ?_
      apply WC.par _ (fun c : Ch => []) [] [] [] Try.mixed
      · (focus ((repeat (first | exact Restr.nil | (apply Restr.keep; exact rfl; exact rfl) | (apply Restr.drop; exact rfl))); done))
      · intro c; exact (by repeat constructor)
      · exact rfl
      · decide +kernel
      · decide +kernel
      · intro c
        (apply Par.quiet _ []; exact rfl; decide +kernel; exact rfl; intro R; refine ⟨_, (by repeat constructor), ?_⟩;
             (first | (apply EvW.move; exact rfl)))
        (apply Par.quiet _ []; exact rfl; decide +kernel; exact rfl; intro R; refine ⟨_, (by repeat constructor), ?_⟩;
             (first | (apply EvW.cmpT; exact rfl; exact rfl; exact rfl; omega)))
        (apply Par.quiet _ []; exact rfl; decide +kernel; exact rfl; intro R; refine ⟨_, (by repeat constructor), ?_⟩;
             (first | (apply EvW.move; exact rfl)))
        first
          | (apply Par.skip; exact rfl; decide +kernel; exact rfl)
          | (apply Par.quiet _ []; exact rfl; decide +kernel; exact rfl; intro R; refine ⟨_, (by repeat constructor), ?_⟩;
             (first | (apply EvW.move; exact rfl)))
        first
          | (apply Par.skip; exact rfl; decide +kernel; exact rfl)
          | (apply Par.quiet _ []; exact rfl; decide +kernel; exact rfl; intro R; refine ⟨_, (by repeat constructor), ?_⟩;
             (first | (apply EvW.move; exact rfl)))
        first
          | (apply Par.skip; exact rfl; decide +kernel; exact rfl)
          | (apply Par.quiet _ []; exact rfl; decide +kernel; exact rfl; intro R; refine ⟨_, (by repeat constructor), ?_⟩;
             (first | (apply EvW.nilPtr; exact rfl)))
        first
          | (apply Par.skip; exact rfl; decide +kernel; exact rfl)
          | (apply Par.quiet _ []; exact rfl; decide +kernel; exact rfl; intro R; refine ⟨_, (by repeat constructor), ?_⟩;
             (first | (apply EvW.fieldAddr0; exact rfl; exact FldC.eq)))
        first
          | (apply Par.skip; exact rfl; decide +kernel; exact rfl)
          | (apply Par.quiet _ []; exact rfl; decide +kernel; exact rfl; intro R; refine ⟨_, (by repeat constructor), ?_⟩;
             (first | (apply EvW.ldSeen; exact rfl; exact ScalC.eq; assumption; (first | exact rfl | assumption))))
        first
          | (apply Par.skip; exact rfl; decide +kernel; exact rfl)
          | (apply Par.quiet _ []; exact rfl; decide +kernel; exact rfl; intro R; refine ⟨_, (by repeat constructor), ?_⟩;
             (first | (apply EvW.lenRow; exact rfl; exact UndC.eq; assumption)))
        first
          | (apply Par.skip; exact rfl; decide +kernel; exact rfl)
          | (apply Par.quiet _ []; exact rfl; decide +kernel; exact rfl; intro R; refine ⟨_, (by repeat constructor), ?_⟩;
             (first | (apply EvW.cmpF; exact rfl; exact rfl; exact rfl; omega)))
        (apply Par.quiet _ []; exact rfl; decide +kernel; exact rfl; intro R; refine ⟨_, (by repeat constructor), ?_⟩;
             (first | (apply EvW.pickT; exact rfl; exact rfl)))
        (apply Par.quiet _ []; exact rfl; decide +kernel; exact rfl; intro R; refine ⟨_, (by repeat constructor), ?_⟩;
             (first | (apply EvW.move; exact rfl)))
        first
          | (apply Par.skip; exact rfl; decide +kernel; exact rfl)
          | (apply Par.quiet _ []; exact rfl; decide +kernel; exact rfl; intro R; refine ⟨_, (by repeat constructor), ?_⟩;
             fail)
        first
          | (apply Par.skip; exact rfl; decide +kernel; exact rfl)
          | (apply Par.quiet _ []; exact rfl; decide +kernel; exact rfl; intro R; refine ⟨_, (by repeat constructor), ?_⟩;
             fail)
        first
          | (apply Par.skip; exact rfl; decide +kernel; exact rfl)
          | (apply Par.quiet _ []; exact rfl; decide +kernel; exact rfl; intro R; refine ⟨_, (by repeat constructor), ?_⟩;
             fail)
        first
          | (apply Par.skip; exact rfl; decide +kernel; exact rfl)
          | (apply Par.quiet _ []; exact rfl; decide +kernel; exact rfl; intro R; refine ⟨_, (by repeat constructor), ?_⟩;
             fail)
        first
          | (apply Par.skip; exact rfl; decide +kernel; exact rfl)
          | (apply Par.quiet _ []; exact rfl; decide +kernel; exact rfl; intro R; refine ⟨_, (by repeat constructor), ?_⟩;
             fail)
        first
          | (apply Par.skip; exact rfl; decide +kernel; exact rfl)
          | (apply Par.quiet _ []; exact rfl; decide +kernel; exact rfl; intro R; refine ⟨_, (by repeat constructor), ?_⟩;
             fail)
        first
          | (apply Par.skip; exact rfl; decide +kernel; exact rfl)
          | (apply Par.quiet _ []; exact rfl; decide +kernel; exact rfl; intro R; refine ⟨_, (by repeat constructor), ?_⟩;
             fail)
        first
          | (apply Par.skip; exact rfl; decide +kernel; exact rfl)
          | (apply Par.quiet _ []; exact rfl; decide +kernel; exact rfl; intro R; refine ⟨_, (by repeat constructor), ?_⟩;
             fail)
        first
          | (apply Par.skip; exact rfl; decide +kernel; exact rfl)
          | (apply Par.quiet _ []; exact rfl; decide +kernel; exact rfl; intro R; refine ⟨_, (by repeat constructor), ?_⟩;
             fail)
        first
          | (apply Par.skip; exact rfl; decide +kernel; exact rfl)
          | (apply Par.quiet _ []; exact rfl; decide +kernel; exact rfl; intro R; refine ⟨_, (by repeat constructor), ?_⟩;
             fail)
        first
          | (apply Par.skip; exact rfl; decide +kernel; exact rfl)
          | (apply Par.quiet _ []; exact rfl; decide +kernel; exact rfl; intro R; refine ⟨_, (by repeat constructor), ?_⟩;
             fail)
        first
          | (apply Par.skip; exact rfl; decide +kernel; exact rfl)
          | (apply Par.quiet _ []; exact rfl; decide +kernel; exact rfl; intro R; refine ⟨_, (by repeat constructor), ?_⟩;
             fail)
        first
          | (apply Par.skip; exact rfl; decide +kernel; exact rfl)
          | (apply Par.quiet _ []; exact rfl; decide +kernel; exact rfl; intro R; refine ⟨_, (by repeat constructor), ?_⟩;
             fail)
        first
          | (apply Par.skip; exact rfl; decide +kernel; exact rfl)
          | (apply Par.quiet _ []; exact rfl; decide +kernel; exact rfl; intro R; refine ⟨_, (by repeat constructor), ?_⟩;
             fail)
        (apply Par.skip; exact rfl; decide +kernel; exact rfl)
        (apply Par.quiet _ []; exact rfl; decide +kernel; exact rfl; intro R; refine ⟨_, (by repeat constructor), ?_⟩;
             (first | (apply EvW.pickF; exact rfl; exact rfl)))
        (apply Par.quiet _ []; exact rfl; decide +kernel; exact rfl; intro R; refine ⟨_, (by repeat constructor), ?_⟩;
             (first | (apply EvW.assign; exact rfl)))
        exact Par.nil
      · repeat (first | exact AllN.nil | (apply AllN.cons; (intro c x; (repeat (first | exact IndA.nil | (apply IndA.skip; decide +kernel) | apply IndA.same))))) 
      · repeat (first | exact AllN.nil | (apply AllN.cons; (intro c x; (repeat (first | exact IndT.nil | (apply IndT.skip; decide +kernel) | apply IndT.same))))) 
      · exact fun _ => rfl
      intro c
      refine ⟨_, (by repeat constructor), ?_⟩
      apply WE.writ
      · (focus ((repeat (first | exact Writ.nil | apply Writ.some | apply Writ.none)); done))
      repeat first
        | refine WE.next ?_ | refine WC.ret ?_
      refine WE.ret1 rfl rfl ?_
      exact ⟨rfl, rfl⟩
  · rw [aliveP_out (fun h => h0 h.1)] at hg
    subst hg
    repeat first
      | (apply WL.q; exact rfl; exact rfl; exact rfl; (first | (apply EvW.assign; exact rfl)))
      | refine WC.seq ?_ | refine WC.region ?_ | refine WL.nil ?_ | refine WE.next ?_
    repeat refine WC.seq ?_
    refine WC.keep (xs := []) (by repeat constructor) ?_
    apply WC.par _ (fun c : Ch => []) [] [] [] Try.mixed
    · (focus ((repeat (first | exact Restr.nil | (apply Restr.keep; exact rfl; exact rfl) | (apply Restr.drop; exact rfl))); done))
    · intro c; exact (by repeat constructor)
    · exact rfl
    · decide +kernel
    · decide +kernel
    · intro c
      (apply Par.quiet _ []; exact rfl; decide +kernel; exact rfl; intro R; refine ⟨_, (by repeat constructor), ?_⟩;
           (first | (apply EvW.move; exact rfl)))
      (apply Par.quiet _ []; exact rfl; decide +kernel; exact rfl; intro R; refine ⟨_, (by repeat constructor), ?_⟩;
           (first | (apply EvW.cmpF; exact rfl; exact rfl; exact rfl; omega)))
      (apply Par.quiet _ []; exact rfl; decide +kernel; exact rfl; intro R; refine ⟨_, (by repeat constructor), ?_⟩;
           (first | (apply EvW.move; exact rfl)))
      first
        | (apply Par.skip; exact rfl; decide +kernel; exact rfl)
        | (apply Par.quiet _ []; exact rfl; decide +kernel; exact rfl; intro R; refine ⟨_, (by repeat constructor), ?_⟩;
           fail)
      first
        | (apply Par.skip; exact rfl; decide +kernel; exact rfl)
        | (apply Par.quiet _ []; exact rfl; decide +kernel; exact rfl; intro R; refine ⟨_, (by repeat constructor), ?_⟩;
           fail)
      first
        | (apply Par.skip; exact rfl; decide +kernel; exact rfl)
        | (apply Par.quiet _ []; exact rfl; decide +kernel; exact rfl; intro R; refine ⟨_, (by repeat constructor), ?_⟩;
           fail)
      first
        | (apply Par.skip; exact rfl; decide +kernel; exact rfl)
        | (apply Par.quiet _ []; exact rfl; decide +kernel; exact rfl; intro R; refine ⟨_, (by repeat constructor), ?_⟩;
           fail)
      first
        | (apply Par.skip; exact rfl; decide +kernel; exact rfl)
        | (apply Par.quiet _ []; exact rfl; decide +kernel; exact rfl; intro R; refine ⟨_, (by repeat constructor), ?_⟩;
           fail)
      first
        | (apply Par.skip; exact rfl; decide +kernel; exact rfl)
        | (apply Par.quiet _ []; exact rfl; decide +kernel; exact rfl; intro R; refine ⟨_, (by repeat constructor), ?_⟩;
           fail)
      first
        | (apply Par.skip; exact rfl; decide +kernel; exact rfl)
        | (apply Par.quiet _ []; exact rfl; decide +kernel; exact rfl; intro R; refine ⟨_, (by repeat constructor), ?_⟩;
           fail)
      (apply Par.quiet _ []; exact rfl; decide +kernel; exact rfl; intro R; refine ⟨_, (by repeat constructor), ?_⟩;
           (first | (apply EvW.pickF; exact rfl; exact rfl)))
      (apply Par.quiet _ []; exact rfl; decide +kernel; exact rfl; intro R; refine ⟨_, (by repeat constructor), ?_⟩;
           (first | (apply EvW.move; exact rfl)))
      first
        | (apply Par.skip; exact rfl; decide +kernel; exact rfl)
        | (apply Par.quiet _ []; exact rfl; decide +kernel; exact rfl; intro R; refine ⟨_, (by repeat constructor), ?_⟩;
           fail)
      first
        | (apply Par.skip; exact rfl; decide +kernel; exact rfl)
        | (apply Par.quiet _ []; exact rfl; decide +kernel; exact rfl; intro R; refine ⟨_, (by repeat constructor), ?_⟩;
           fail)
      first
        | (apply Par.skip; exact rfl; decide +kernel; exact rfl)
        | (apply Par.quiet _ []; exact rfl; decide +kernel; exact rfl; intro R; refine ⟨_, (by repeat constructor), ?_⟩;
           fail)
      first
        | (apply Par.skip; exact rfl; decide +kernel; exact rfl)
        | (apply Par.quiet _ []; exact rfl; decide +kernel; exact rfl; intro R; refine ⟨_, (by repeat constructor), ?_⟩;
           fail)
      first
        | (apply Par.skip; exact rfl; decide +kernel; exact rfl)
        | (apply Par.quiet _ []; exact rfl; decide +kernel; exact rfl; intro R; refine ⟨_, (by repeat constructor), ?_⟩;
           fail)
      first
        | (apply Par.skip; exact rfl; decide +kernel; exact rfl)
        | (apply Par.quiet _ []; exact rfl; decide +kernel; exact rfl; intro R; refine ⟨_, (by repeat constructor), ?_⟩;
           fail)
      first
        | (apply Par.skip; exact rfl; decide +kernel; exact rfl)
        | (apply Par.quiet _ []; exact rfl; decide +kernel; exact rfl; intro R; refine ⟨_, (by repeat constructor), ?_⟩;
           fail)
      first
        | (apply Par.skip; exact rfl; decide +kernel; exact rfl)
        | (apply Par.quiet _ []; exact rfl; decide +kernel; exact rfl; intro R; refine ⟨_, (by repeat constructor), ?_⟩;
           fail)
      first
        | (apply Par.skip; exact rfl; decide +kernel; exact rfl)
        | (apply Par.quiet _ []; exact rfl; decide +kernel; exact rfl; intro R; refine ⟨_, (by repeat constructor), ?_⟩;
           fail)
      first
        | (apply Par.skip; exact rfl; decide +kernel; exact rfl)
        | (apply Par.quiet _ []; exact rfl; decide +kernel; exact rfl; intro R; refine ⟨_, (by repeat constructor), ?_⟩;
           fail)
      first
        | (apply Par.skip; exact rfl; decide +kernel; exact rfl)
        | (apply Par.quiet _ []; exact rfl; decide +kernel; exact rfl; intro R; refine ⟨_, (by repeat constructor), ?_⟩;
           fail)
      first
        | (apply Par.skip; exact rfl; decide +kernel; exact rfl)
        | (apply Par.quiet _ []; exact rfl; decide +kernel; exact rfl; intro R; refine ⟨_, (by repeat constructor), ?_⟩;
           fail)
      first
        | (apply Par.skip; exact rfl; decide +kernel; exact rfl)
        | (apply Par.quiet _ []; exact rfl; decide +kernel; exact rfl; intro R; refine ⟨_, (by repeat constructor), ?_⟩;
           fail)
      first
        | (apply Par.skip; exact rfl; decide +kernel; exact rfl)
        | (apply Par.quiet _ []; exact rfl; decide +kernel; exact rfl; intro R; refine ⟨_, (by repeat constructor), ?_⟩;
           fail)
      (apply Par.skip; exact rfl; decide +kernel; exact rfl)
      (apply Par.quiet _ []; exact rfl; decide +kernel; exact rfl; intro R; refine ⟨_, (by repeat constructor), ?_⟩;
           (first | (apply EvW.pickF; exact rfl; exact rfl)))
      (apply Par.quiet _ []; exact rfl; decide +kernel; exact rfl; intro R; refine ⟨_, (by repeat constructor), ?_⟩;
           (first | (apply EvW.assign; exact rfl)))
      exact Par.nil
    · repeat (first | exact AllN.nil | (apply AllN.cons; (intro c x; (repeat (first | exact IndA.nil | (apply IndA.skip; decide +kernel) | apply IndA.same))))) 
    · repeat (first | exact AllN.nil | (apply AllN.cons; (intro c x; (repeat (first | exact IndT.nil | (apply IndT.skip; decide +kernel) | apply IndT.same))))) 
    · exact fun _ => rfl
    intro c
    refine ⟨_, (by repeat constructor), ?_⟩
    apply WE.writ
    · (focus ((repeat (first | exact Writ.nil | apply Writ.some | apply Writ.none)); done))
    repeat first
      | refine WE.next ?_ | refine WC.ret ?_
    refine WE.ret1 rfl rfl ?_
    exact ⟨rfl, rfl⟩
/-- Where a number stands in a list; -1: nowhere. -/
def atF : List Int → Int → Int
  | [], _ => -1
  | y :: l, x => if y = x then 0 else if atF l x < 0 then -1 else atF l x + 1
theorem atF_lo (x : Int) : ∀ l : List Int, -1 ≤ atF l x ∧ atF l x < l.length
  | [] => ⟨by simp [atF], by simp [atF]⟩
  | y :: l => by
    obtain ⟨h1, h2⟩ := atF_lo x l
    unfold atF
    simp only [List.length_cons]
    split
    · omega
    split <;> omega
theorem atF_app (x : Int) (l : List Int) : ∀ a : List Int, (∀ j, j < a.length → a.getD j 0 ≠ x) → atF (a ++ x :: l) x = a.length
  | [], _ => by simp [atF]
  | y :: a, h => by
    have h1 := atF_app x l a fun j hj => by have := h (j + 1) (by simp; omega); simpa using this
    have h0 : y ≠ x := by have := h 0 (by simp); simpa using this
    show (if y = x then 0 else if atF (a ++ x :: l) x < 0 then -1 else atF (a ++ x :: l) x + 1) = _
    rw [if_neg h0, h1, if_neg (by omega), List.length_cons]; rfl
theorem atF_none (x : Int) : ∀ a : List Int, (∀ j, j < a.length → a.getD j 0 ≠ x) → atF a x = -1
  | [], _ => rfl
  | y :: a, h => by
    have h1 := atF_none x a fun j hj => by have := h (j + 1) (by simp; omega); simpa using this
    have h0 : y ≠ x := by have := h 0 (by simp); simpa using this
    show (if y = x then 0 else if atF a x < 0 then -1 else atF a x + 1) = _
    rw [if_neg h0, h1]; rfl
theorem atF_at {x : Int} {xs : List Int} {i : Nat} (hi : i < xs.length) (h : ∀ j, j < i → xs.getD j 0 ≠ x) (he : xs.getD i 0 = x) : atF xs x = i := by
  have e : xs = xs.take i ++ x :: xs.drop (i + 1) := by
    conv => lhs; rw [← List.take_append_drop i xs]
    rw [List.drop_eq_getElem_cons hi]
    have : xs[i] = x := by rw [← he, List.getD_eq_getElem?_getD, List.getElem?_eq_getElem hi]; rfl
    rw [this]
  rw [e, atF_app]
  · rw [List.length_take]; omega
  · intro j hj
    rw [List.length_take] at hj
    rw [List.getD_eq_getElem?_getD, List.getElem?_take_of_lt (by omega), ← List.getD_eq_getElem?_getD]
    exact h j (by omega)
theorem upto_stepI {i : Nat} {P : Nat → Prop} (h : ∀ j, j < i → P j) (h' : P i) : ∀ j, j < i + 1 → P j := fun j hj => (Nat.lt_succ_iff_lt_or_eq.1 hj).elim (h j) (fun e => e ▸ h')
theorem indexI_spec (xs : List Int) (v : Value) (x : Int) (w : World) (S : BSet) (hS : (sepL []).sat S w) (hv : Sees w S (.row 1 v xs.length (xs.map i64))) (hn : xs.length ≤ 17592186044416) :
    Tri Try.prog 61 #[v, i64 x] w S fun u A => u = i64 (atF xs x) ∧ A = [] := by
  refine Tri.enter (l := [v, i64 x]) Try.func61 rfl Try.ntmps61 rfl [(0, v), (1, i64 x)] (subA rfl) hS ?_
  repeat first
    | (apply WL.q; exact rfl; exact rfl; exact rfl; (first | (apply EvW.move; exact rfl) | (apply EvW.assign; exact rfl) | (apply EvW.lenRow; exact rfl; exact UndC.eq; assumption)))
    | refine WC.seq ?_ | refine WC.region ?_ | refine WL.nil ?_ | refine WE.next ?_ | refine WC.block ?_
  refine WC.loopK (σ := Nat) [0, 1, 7] (fun s => [(8, i64 s)]) (fun s => []) (fun s => s ≤ xs.length ∧ ∀ j, j < s → xs.getD j 0 ≠ x) (fun s => xs.length - s) 0 (by (focus ((repeat (first | exact Pick.nil | (apply Pick.cons; exact rfl))); done))) (by (focus ((repeat (first | exact trivial | (refine ⟨rfl, ?_⟩))); done))) (fun _ h => h.keep (by repeat constructor)) ⟨Nat.zero_le _, fun j hj => absurd hj (Nat.not_lt_zero j)⟩ (fun s hs => ?_)
  obtain ⟨i, rfl⟩ : ∃ q, q = s := ⟨s, rfl⟩
  simp only [List.cons_append, List.nil_append] at hs ⊢
  by_cases hlt : (i : Int) < xs.length
  · have hin : (((i : Nat) : Int)).toNat = i := Int.toNat_natCast i
    by_cases he : x = xs.getD ((i : Nat) : Int).toNat 0
    · have hat := atF_at (x := x) (xs := xs) (i := i) (by omega) hs.2 he.symm
      repeat first
        | (apply WL.q; exact rfl; exact rfl; exact rfl; (first | (apply EvW.move; exact rfl) | (apply EvW.assign; exact rfl) | (apply EvW.cmpT; exact rfl; exact rfl; exact rfl; omega) | (apply EvW.idxRow; exact rfl; exact rfl; exact UndC.eq; exact SzC.eq; assumption; omega; omega) | (apply EvW.ldInt; exact rfl; exact ScalC.eq; assumption; omega)))
        | refine WC.seq ?_ | refine WC.region ?_ | refine WL.nil ?_ | refine WE.next ?_ | refine WC.block ?_ | refine WC.skip ?_ | refine WC.condT rfl ?_ | refine WC.ret ?_ | refine WE.passRet ?_ | refine WE.outRet ?_
      refine WE.bare ?_
      refine WE.ret1 rfl rfl ?_
      exact ⟨by rw [hat], rfl⟩
    · repeat first
        | (apply WL.q; exact rfl; exact rfl; exact rfl; (first | (apply EvW.move; exact rfl) | (apply EvW.assign; exact rfl) | (apply EvW.cmpT; exact rfl; exact rfl; exact rfl; omega) | (apply EvW.cmpF; exact rfl; exact rfl; exact rfl; omega) | (apply EvW.arN; exact rfl; exact rfl; exact rfl; refine i64_in ?_ ?_ <;> omega) | (apply EvW.idxRow; exact rfl; exact rfl; exact UndC.eq; exact SzC.eq; assumption; omega; omega) | (apply EvW.ldInt; exact rfl; exact ScalC.eq; assumption; omega)))
        | refine WC.seq ?_ | refine WC.region ?_ | refine WL.nil ?_ | refine WE.next ?_ | refine WC.block ?_ | refine WC.skip ?_ | refine WE.out ?_ | refine WC.condT rfl ?_ | refine WC.condF rfl ?_
      exact WE.again (s := i) ((i + 1)) ⟨by omega, upto_stepI hs.2 (by rw [← hin]; exact fun h => he h.symm)⟩ (by (focus ((repeat (first | exact trivial | (refine ⟨rfl, ?_⟩))); done))) (fun _ h => (by (try simp only []); exact h.keep (by repeat constructor))) (by (try simp only []); omega)
  · have hat := atF_none x xs (fun j hj => hs.2 j (by omega))
    repeat first
      | (apply WL.q; exact rfl; exact rfl; exact rfl; (first | (apply EvW.assign; exact rfl) | (apply EvW.cmpF; exact rfl; exact rfl; exact rfl; omega)))
      | refine WC.seq ?_ | refine WC.region ?_ | refine WL.nil ?_ | refine WE.next ?_ | refine WC.exit ?_ | refine WE.pass ?_ | refine WE.hit ?_ | refine WC.condF rfl ?_ | refine WC.ret ?_
    refine WE.bare ?_
    refine WE.ret1 rfl rfl ?_
    exact ⟨by rw [hat], rfl⟩
end Go.Proofs.Ytamofjpadnnppaa
namespace Go.Proofs.Ytamofjpadnnppaa
open Go.RowKit Go.BK
def ocOf (c : Cfg) (s : Int) : Int := if 0 ≤ s ∧ s < c.secs.length then (c.secs.getD s.toNat default).oc else -1
def lookP (al : Bool) (i : Int) (said : List Int) (st worst : Int) : Int × Int × Bool := if al = true ∧ 0 ≤ i ∧ i < said.length then (said.getD i.toNat 0, st, true) else (worst, -1, false)
def lkC (l : Int × Int × Bool) : List Value := [i64 l.1, i64 l.2.1, .bool l.2.2]
theorem lookP_dead {i : Int} {said : List Int} {st worst : Int} : lookP false i said st worst = (worst, -1, false) := by unfold lookP; rw [if_neg (fun h => by cases h.1)]
theorem lookP_none {al : Bool} {i : Int} {said : List Int} {st worst : Int} (h : i < 0) : lookP al i said st worst = (worst, -1, false) := by unfold lookP; rw [if_neg (by omega)]
theorem lookP_some {i : Int} {said : List Int} {st worst : Int} (h : 0 ≤ i) (h2 : i < said.length) : lookP true i said st worst = (said.getD i.toNat 0, st, true) := by unfold lookP; rw [if_pos ⟨rfl, h, h2⟩]
abbrev Sel := Q4 → Value × List Int
def selA : Sel := fun q => (q.a, q.la)
def selB : Sel := fun q => (q.b, q.lb)
def selY : Sel := fun q => (q.y, q.ly)
def selD : Sel := fun q => (q.d, q.ld)
/-- What an element's voice tells of it. -/
def Img.lookV (x : Img) (sel : Sel) (now sec el worst : Int) : Int × Int × Bool :=
  lookP (aliveP x.st now x.c.age (ocOf x.c sec)) (atF (sel ((x.vs.getD (ocOf x.c sec).toNat default)).sh).2 el) (sel ((x.vs.getD (ocOf x.c sec).toNat default)).sd).2 ((x.vs.getD (ocOf x.c sec).toNat default)).stamp worst
structure Img.Good (x : Img) (now : Int) (sel : Sel) : Prop where
  row : ∀ {v : Q4} {w : World} {S : BSet}, v.Seen w S → Sees w S (.row 1 (sel v).1 (sel v).2.length ((sel v).2.map i64)) ∧ (sel v).2.length ≤ 17592186044416
  len : ∀ oc, aliveP x.st now x.c.age oc = true → (sel ((x.vs.getD oc.toNat default)).sd).2.length = (sel ((x.vs.getD oc.toNat default)).sh).2.length
structure Place (f : FuncId) (sel : Sel) : Prop where
  call : ∀ (l : Array Value) (w : World), (callFunc f l).run Try.prog w = .ok (.enter f l) w
  ans : ∀ (v : Voice) (w : World) (S : BSet), (sepL []).sat S w → Sees w S (.blk (v).b #[ptr (v).r 0, (v).sh.a, (v).sh.b, (v).sh.y, (v).sh.d, (v).sd.a, (v).sd.b, (v).sd.y, (v).sd.d, i64 (v).stamp] 78) → Tri Try.prog f #[ptr v.b 0] w S fun u A => u = .tuple #[(sel v.sh).1, (sel v.sd).1] ∧ A = []
theorem place1_spec (v : Voice) (w : World) (S : BSet) (hS : (sepL []).sat S w) (hv : Sees w S (.blk (v).b #[ptr (v).r 0, (v).sh.a, (v).sh.b, (v).sh.y, (v).sh.d, (v).sd.a, (v).sd.b, (v).sd.y, (v).sd.d, i64 (v).stamp] 78)) :
    Tri Try.prog 33 #[ptr v.b 0] w S fun u A => u = .tuple #[v.sh.a, v.sd.a] ∧ A = [] := by
  refine Tri.enter (l := [ptr v.b 0]) Try.func33 rfl Try.ntmps33 rfl [(0, ptr v.b 0)] (subA rfl) hS ?_
  repeat first
    | (apply WL.q; exact rfl; exact rfl; exact rfl; (first | (apply EvW.assign; exact rfl)))
    | refine WC.seq ?_ | refine WC.region ?_ | refine WL.nil ?_ | refine WE.next ?_
  repeat refine WC.seq ?_
  refine WC.keep (xs := []) (by repeat constructor) ?_
  apply WC.par _ (fun c : Ch => []) [] [] [] Try.mixed
  · (focus ((repeat (first | exact Restr.nil | (apply Restr.keep; exact rfl; exact rfl) | (apply Restr.drop; exact rfl))); done))
  · intro c; exact (by repeat constructor)
  · exact rfl
  · decide +kernel
  · decide +kernel
  · intro c
    (apply Par.quiet _ []; exact rfl; decide +kernel; exact rfl; intro R; refine ⟨_, (by repeat constructor), ?_⟩;
         (first | (apply EvW.move; exact rfl)))
    (apply Par.quiet _ []; exact rfl; decide +kernel; exact rfl; intro R; refine ⟨_, (by repeat constructor), ?_⟩;
         (first | (apply EvW.nilPtr; exact rfl)))
    (apply Par.quiet _ []; exact rfl; decide +kernel; exact rfl; intro R; refine ⟨_, (by repeat constructor), ?_⟩;
         (first | (apply EvW.fieldAddr0; exact rfl; exact FldC.eq)))
    (apply Par.quiet _ []; exact rfl; decide +kernel; exact rfl; intro R; refine ⟨_, (by repeat constructor), ?_⟩;
         (first | (apply EvW.fieldAddr; exact rfl; exact FldC.eq)))
    (apply Par.quiet _ []; exact rfl; decide +kernel; exact rfl; intro R; refine ⟨_, (by repeat constructor), ?_⟩;
         (first | (apply EvW.ldSeen; exact rfl; exact ScalC.eq; assumption; (first | exact rfl | assumption))))
    (apply Par.quiet _ []; exact rfl; decide +kernel; exact rfl; intro R; refine ⟨_, (by repeat constructor), ?_⟩;
         (first | (apply EvW.move; exact rfl)))
    (apply Par.quiet _ []; exact rfl; decide +kernel; exact rfl; intro R; refine ⟨_, (by repeat constructor), ?_⟩;
         (first | (apply EvW.nilPtr; exact rfl)))
    (apply Par.quiet _ []; exact rfl; decide +kernel; exact rfl; intro R; refine ⟨_, (by repeat constructor), ?_⟩;
         (first | (apply EvW.fieldAddr0; exact rfl; exact FldC.eq)))
    (apply Par.quiet _ []; exact rfl; decide +kernel; exact rfl; intro R; refine ⟨_, (by repeat constructor), ?_⟩;
         (first | (apply EvW.fieldAddr; exact rfl; exact FldC.eq)))
    (apply Par.quiet _ []; exact rfl; decide +kernel; exact rfl; intro R; refine ⟨_, (by repeat constructor), ?_⟩;
         (first | (apply EvW.ldSeen; exact rfl; exact ScalC.eq; assumption; (first | exact rfl | assumption))))
    (apply Par.quiet _ []; exact rfl; decide +kernel; exact rfl; intro R; refine ⟨_, (by repeat constructor), ?_⟩;
         (first | (apply EvW.assign; exact rfl)))
    (apply Par.quiet _ []; exact rfl; decide +kernel; exact rfl; intro R; refine ⟨_, (by repeat constructor), ?_⟩;
         (first | (apply EvW.assign; exact rfl)))
    exact Par.nil
  · repeat (first | exact AllN.nil | (apply AllN.cons; (intro c x; (repeat (first | exact IndA.nil | (apply IndA.skip; decide +kernel) | apply IndA.same))))) 
  · repeat (first | exact AllN.nil | (apply AllN.cons; (intro c x; (repeat (first | exact IndT.nil | (apply IndT.skip; decide +kernel) | apply IndT.same))))) 
  · exact fun _ => rfl
  intro c
  refine ⟨_, (by repeat constructor), ?_⟩
  apply WE.writ
  · (focus ((repeat (first | exact Writ.nil | apply Writ.some | apply Writ.none)); done))
  repeat first
    | refine WE.next ?_ | refine WC.ret ?_
  refine WE.retN (l := [2, 3]) rfl rfl rfl ?_
  exact ⟨rfl, rfl⟩
theorem place2_spec (v : Voice) (w : World) (S : BSet) (hS : (sepL []).sat S w) (hv : Sees w S (.blk (v).b #[ptr (v).r 0, (v).sh.a, (v).sh.b, (v).sh.y, (v).sh.d, (v).sd.a, (v).sd.b, (v).sd.y, (v).sd.d, i64 (v).stamp] 78)) :
    Tri Try.prog 34 #[ptr v.b 0] w S fun u A => u = .tuple #[v.sh.b, v.sd.b] ∧ A = [] := by
  refine Tri.enter (l := [ptr v.b 0]) Try.func34 rfl Try.ntmps34 rfl [(0, ptr v.b 0)] (subA rfl) hS ?_
  repeat first
    | (apply WL.q; exact rfl; exact rfl; exact rfl; (first | (apply EvW.assign; exact rfl)))
    | refine WC.seq ?_ | refine WC.region ?_ | refine WL.nil ?_ | refine WE.next ?_
  repeat refine WC.seq ?_
  refine WC.keep (xs := []) (by repeat constructor) ?_
  apply WC.par _ (fun c : Ch => []) [] [] [] Try.mixed
  · (focus ((repeat (first | exact Restr.nil | (apply Restr.keep; exact rfl; exact rfl) | (apply Restr.drop; exact rfl))); done))
  · intro c; exact (by repeat constructor)
  · exact rfl
  · decide +kernel
  · decide +kernel
  · intro c
    (apply Par.quiet _ []; exact rfl; decide +kernel; exact rfl; intro R; refine ⟨_, (by repeat constructor), ?_⟩;
         (first | (apply EvW.move; exact rfl)))
    (apply Par.quiet _ []; exact rfl; decide +kernel; exact rfl; intro R; refine ⟨_, (by repeat constructor), ?_⟩;
         (first | (apply EvW.nilPtr; exact rfl)))
    (apply Par.quiet _ []; exact rfl; decide +kernel; exact rfl; intro R; refine ⟨_, (by repeat constructor), ?_⟩;
         (first | (apply EvW.fieldAddr0; exact rfl; exact FldC.eq)))
    (apply Par.quiet _ []; exact rfl; decide +kernel; exact rfl; intro R; refine ⟨_, (by repeat constructor), ?_⟩;
         (first | (apply EvW.fieldAddr; exact rfl; exact FldC.eq)))
    (apply Par.quiet _ []; exact rfl; decide +kernel; exact rfl; intro R; refine ⟨_, (by repeat constructor), ?_⟩;
         (first | (apply EvW.ldSeen; exact rfl; exact ScalC.eq; assumption; (first | exact rfl | assumption))))
    (apply Par.quiet _ []; exact rfl; decide +kernel; exact rfl; intro R; refine ⟨_, (by repeat constructor), ?_⟩;
         (first | (apply EvW.move; exact rfl)))
    (apply Par.quiet _ []; exact rfl; decide +kernel; exact rfl; intro R; refine ⟨_, (by repeat constructor), ?_⟩;
         (first | (apply EvW.nilPtr; exact rfl)))
    (apply Par.quiet _ []; exact rfl; decide +kernel; exact rfl; intro R; refine ⟨_, (by repeat constructor), ?_⟩;
         (first | (apply EvW.fieldAddr0; exact rfl; exact FldC.eq)))
    (apply Par.quiet _ []; exact rfl; decide +kernel; exact rfl; intro R; refine ⟨_, (by repeat constructor), ?_⟩;
         (first | (apply EvW.fieldAddr; exact rfl; exact FldC.eq)))
    (apply Par.quiet _ []; exact rfl; decide +kernel; exact rfl; intro R; refine ⟨_, (by repeat constructor), ?_⟩;
         (first | (apply EvW.ldSeen; exact rfl; exact ScalC.eq; assumption; (first | exact rfl | assumption))))
    (apply Par.quiet _ []; exact rfl; decide +kernel; exact rfl; intro R; refine ⟨_, (by repeat constructor), ?_⟩;
         (first | (apply EvW.assign; exact rfl)))
    (apply Par.quiet _ []; exact rfl; decide +kernel; exact rfl; intro R; refine ⟨_, (by repeat constructor), ?_⟩;
         (first | (apply EvW.assign; exact rfl)))
    exact Par.nil
  · repeat (first | exact AllN.nil | (apply AllN.cons; (intro c x; (repeat (first | exact IndA.nil | (apply IndA.skip; decide +kernel) | apply IndA.same))))) 
  · repeat (first | exact AllN.nil | (apply AllN.cons; (intro c x; (repeat (first | exact IndT.nil | (apply IndT.skip; decide +kernel) | apply IndT.same))))) 
  · exact fun _ => rfl
  intro c
  refine ⟨_, (by repeat constructor), ?_⟩
  apply WE.writ
  · (focus ((repeat (first | exact Writ.nil | apply Writ.some | apply Writ.none)); done))
  repeat first
    | refine WE.next ?_ | refine WC.ret ?_
  refine WE.retN (l := [2, 3]) rfl rfl rfl ?_
  exact ⟨rfl, rfl⟩
theorem place3_spec (v : Voice) (w : World) (S : BSet) (hS : (sepL []).sat S w) (hv : Sees w S (.blk (v).b #[ptr (v).r 0, (v).sh.a, (v).sh.b, (v).sh.y, (v).sh.d, (v).sd.a, (v).sd.b, (v).sd.y, (v).sd.d, i64 (v).stamp] 78)) :
    Tri Try.prog 35 #[ptr v.b 0] w S fun u A => u = .tuple #[v.sh.y, v.sd.y] ∧ A = [] := by
  refine Tri.enter (l := [ptr v.b 0]) Try.func35 rfl Try.ntmps35 rfl [(0, ptr v.b 0)] (subA rfl) hS ?_
  repeat first
    | (apply WL.q; exact rfl; exact rfl; exact rfl; (first | (apply EvW.assign; exact rfl)))
    | refine WC.seq ?_ | refine WC.region ?_ | refine WL.nil ?_ | refine WE.next ?_
  repeat refine WC.seq ?_
  refine WC.keep (xs := []) (by repeat constructor) ?_
  apply WC.par _ (fun c : Ch => []) [] [] [] Try.mixed
  · (focus ((repeat (first | exact Restr.nil | (apply Restr.keep; exact rfl; exact rfl) | (apply Restr.drop; exact rfl))); done))
  · intro c; exact (by repeat constructor)
  · exact rfl
  · decide +kernel
  · decide +kernel
  · intro c
    (apply Par.quiet _ []; exact rfl; decide +kernel; exact rfl; intro R; refine ⟨_, (by repeat constructor), ?_⟩;
         (first | (apply EvW.move; exact rfl)))
    (apply Par.quiet _ []; exact rfl; decide +kernel; exact rfl; intro R; refine ⟨_, (by repeat constructor), ?_⟩;
         (first | (apply EvW.nilPtr; exact rfl)))
    (apply Par.quiet _ []; exact rfl; decide +kernel; exact rfl; intro R; refine ⟨_, (by repeat constructor), ?_⟩;
         (first | (apply EvW.fieldAddr0; exact rfl; exact FldC.eq)))
    (apply Par.quiet _ []; exact rfl; decide +kernel; exact rfl; intro R; refine ⟨_, (by repeat constructor), ?_⟩;
         (first | (apply EvW.fieldAddr; exact rfl; exact FldC.eq)))
    (apply Par.quiet _ []; exact rfl; decide +kernel; exact rfl; intro R; refine ⟨_, (by repeat constructor), ?_⟩;
         (first | (apply EvW.ldSeen; exact rfl; exact ScalC.eq; assumption; (first | exact rfl | assumption))))
    (apply Par.quiet _ []; exact rfl; decide +kernel; exact rfl; intro R; refine ⟨_, (by repeat constructor), ?_⟩;
         (first | (apply EvW.move; exact rfl)))
    (apply Par.quiet _ []; exact rfl; decide +kernel; exact rfl; intro R; refine ⟨_, (by repeat constructor), ?_⟩;
         (first | (apply EvW.nilPtr; exact rfl)))
    (apply Par.quiet _ []; exact rfl; decide +kernel; exact rfl; intro R; refine ⟨_, (by repeat constructor), ?_⟩;
         (first | (apply EvW.fieldAddr0; exact rfl; exact FldC.eq)))
    (apply Par.quiet _ []; exact rfl; decide +kernel; exact rfl; intro R; refine ⟨_, (by repeat constructor), ?_⟩;
         (first | (apply EvW.fieldAddr; exact rfl; exact FldC.eq)))
    (apply Par.quiet _ []; exact rfl; decide +kernel; exact rfl; intro R; refine ⟨_, (by repeat constructor), ?_⟩;
         (first | (apply EvW.ldSeen; exact rfl; exact ScalC.eq; assumption; (first | exact rfl | assumption))))
    (apply Par.quiet _ []; exact rfl; decide +kernel; exact rfl; intro R; refine ⟨_, (by repeat constructor), ?_⟩;
         (first | (apply EvW.assign; exact rfl)))
    (apply Par.quiet _ []; exact rfl; decide +kernel; exact rfl; intro R; refine ⟨_, (by repeat constructor), ?_⟩;
         (first | (apply EvW.assign; exact rfl)))
    exact Par.nil
  · repeat (first | exact AllN.nil | (apply AllN.cons; (intro c x; (repeat (first | exact IndA.nil | (apply IndA.skip; decide +kernel) | apply IndA.same))))) 
  · repeat (first | exact AllN.nil | (apply AllN.cons; (intro c x; (repeat (first | exact IndT.nil | (apply IndT.skip; decide +kernel) | apply IndT.same))))) 
  · exact fun _ => rfl
  intro c
  refine ⟨_, (by repeat constructor), ?_⟩
  apply WE.writ
  · (focus ((repeat (first | exact Writ.nil | apply Writ.some | apply Writ.none)); done))
  repeat first
    | refine WE.next ?_ | refine WC.ret ?_
  refine WE.retN (l := [2, 3]) rfl rfl rfl ?_
  exact ⟨rfl, rfl⟩
theorem place4_spec (v : Voice) (w : World) (S : BSet) (hS : (sepL []).sat S w) (hv : Sees w S (.blk (v).b #[ptr (v).r 0, (v).sh.a, (v).sh.b, (v).sh.y, (v).sh.d, (v).sd.a, (v).sd.b, (v).sd.y, (v).sd.d, i64 (v).stamp] 78)) :
    Tri Try.prog 36 #[ptr v.b 0] w S fun u A => u = .tuple #[v.sh.d, v.sd.d] ∧ A = [] := by
  refine Tri.enter (l := [ptr v.b 0]) Try.func36 rfl Try.ntmps36 rfl [(0, ptr v.b 0)] (subA rfl) hS ?_
  repeat first
    | (apply WL.q; exact rfl; exact rfl; exact rfl; (first | (apply EvW.assign; exact rfl)))
    | refine WC.seq ?_ | refine WC.region ?_ | refine WL.nil ?_ | refine WE.next ?_
  repeat refine WC.seq ?_
  refine WC.keep (xs := []) (by repeat constructor) ?_
  apply WC.par _ (fun c : Ch => []) [] [] [] Try.mixed
  · (focus ((repeat (first | exact Restr.nil | (apply Restr.keep; exact rfl; exact rfl) | (apply Restr.drop; exact rfl))); done))
  · intro c; exact (by repeat constructor)
  · exact rfl
  · decide +kernel
  · decide +kernel
  · intro c
    (apply Par.quiet _ []; exact rfl; decide +kernel; exact rfl; intro R; refine ⟨_, (by repeat constructor), ?_⟩;
         (first | (apply EvW.move; exact rfl)))
    (apply Par.quiet _ []; exact rfl; decide +kernel; exact rfl; intro R; refine ⟨_, (by repeat constructor), ?_⟩;
         (first | (apply EvW.nilPtr; exact rfl)))
    (apply Par.quiet _ []; exact rfl; decide +kernel; exact rfl; intro R; refine ⟨_, (by repeat constructor), ?_⟩;
         (first | (apply EvW.fieldAddr0; exact rfl; exact FldC.eq)))
    (apply Par.quiet _ []; exact rfl; decide +kernel; exact rfl; intro R; refine ⟨_, (by repeat constructor), ?_⟩;
         (first | (apply EvW.fieldAddr; exact rfl; exact FldC.eq)))
    (apply Par.quiet _ []; exact rfl; decide +kernel; exact rfl; intro R; refine ⟨_, (by repeat constructor), ?_⟩;
         (first | (apply EvW.ldSeen; exact rfl; exact ScalC.eq; assumption; (first | exact rfl | assumption))))
    (apply Par.quiet _ []; exact rfl; decide +kernel; exact rfl; intro R; refine ⟨_, (by repeat constructor), ?_⟩;
         (first | (apply EvW.move; exact rfl)))
    (apply Par.quiet _ []; exact rfl; decide +kernel; exact rfl; intro R; refine ⟨_, (by repeat constructor), ?_⟩;
         (first | (apply EvW.nilPtr; exact rfl)))
    (apply Par.quiet _ []; exact rfl; decide +kernel; exact rfl; intro R; refine ⟨_, (by repeat constructor), ?_⟩;
         (first | (apply EvW.fieldAddr0; exact rfl; exact FldC.eq)))
    (apply Par.quiet _ []; exact rfl; decide +kernel; exact rfl; intro R; refine ⟨_, (by repeat constructor), ?_⟩;
         (first | (apply EvW.fieldAddr; exact rfl; exact FldC.eq)))
    (apply Par.quiet _ []; exact rfl; decide +kernel; exact rfl; intro R; refine ⟨_, (by repeat constructor), ?_⟩;
         (first | (apply EvW.ldSeen; exact rfl; exact ScalC.eq; assumption; (first | exact rfl | assumption))))
    (apply Par.quiet _ []; exact rfl; decide +kernel; exact rfl; intro R; refine ⟨_, (by repeat constructor), ?_⟩;
         (first | (apply EvW.assign; exact rfl)))
    (apply Par.quiet _ []; exact rfl; decide +kernel; exact rfl; intro R; refine ⟨_, (by repeat constructor), ?_⟩;
         (first | (apply EvW.assign; exact rfl)))
    exact Par.nil
  · repeat (first | exact AllN.nil | (apply AllN.cons; (intro c x; (repeat (first | exact IndA.nil | (apply IndA.skip; decide +kernel) | apply IndA.same))))) 
  · repeat (first | exact AllN.nil | (apply AllN.cons; (intro c x; (repeat (first | exact IndT.nil | (apply IndT.skip; decide +kernel) | apply IndT.same))))) 
  · exact fun _ => rfl
  intro c
  refine ⟨_, (by repeat constructor), ?_⟩
  apply WE.writ
  · (focus ((repeat (first | exact Writ.nil | apply Writ.some | apply Writ.none)); done))
  repeat first
    | refine WE.next ?_ | refine WC.ret ?_
  refine WE.retN (l := [2, 3]) rfl rfl rfl ?_
  exact ⟨rfl, rfl⟩
theorem place1 : Place 33 selA := ⟨fun l w => Try.call33 l w, fun v w S hS h => place1_spec v w S hS h⟩
theorem place2 : Place 34 selB := ⟨fun l w => Try.call34 l w, fun v w S hS h => place2_spec v w S hS h⟩
theorem place3 : Place 35 selY := ⟨fun l w => Try.call35 l w, fun v w S hS h => place3_spec v w S hS h⟩
theorem place4 : Place 36 selD := ⟨fun l w => Try.call36 l w, fun v w S hS h => place4_spec v w S hS h⟩
theorem ocOf_in {c : Cfg} {s : Int} (h : 0 ≤ s) (h2 : s < c.secs.length) : ocOf c s = (c.secs.getD s.toNat default).oc := by unfold ocOf; rw [if_pos ⟨h, h2⟩]
theorem ocOf_out {c : Cfg} {s : Int} (h : ¬ (0 ≤ s ∧ s < c.secs.length)) : ocOf c s = -1 := by unfold ocOf; rw [if_neg h]
theorem lookI_spec (x : Img) (now sec el worst : Int) (f : FuncId) (sel : Sel) (l : Int × Int × Bool) (w : World) (S : BSet) (hS : (sepL []).sat S w) (hx : x.Seen w S) (hw : now ≤ 9223372036854775807) (hP : Place f sel) (hG : x.Good now sel) (hl : x.lookV sel now sec el worst = l) :
    Tri Try.prog 32 #[ptr x.b 0, i64 now, i64 sec, i64 el, i64 worst, .func (.func f) #[] #[]] w S fun u A => u = .agg #[i64 (l).1, i64 (l).2.1, .bool (l).2.2] ∧ A = [] := by
  refine Tri.enter (l := [ptr x.b 0, i64 now, i64 sec, i64 el, i64 worst, .func (.func f) #[] #[]]) Try.func32 rfl Try.ntmps32 rfl [(0, ptr x.b 0), (1, i64 now), (2, i64 sec), (3, i64 el), (4, i64 worst), (5, .func (.func f) #[] #[])] (subA rfl) hS ?_
  subst hl
  unfold Img.lookV
  have hB := hx.blk
  have hV := hx.vv
  have hsec := hx.c.secs
  have hnS := hx.c.nS
  repeat first
    | refine WC.seq ?_ | refine WC.region ?_
  try refine WL.wanted rfl rfl rfl ?_
  (apply WL.alloc; exact rfl; exact ZvC.eq; exact rfl; intro r)
  repeat first
    | (apply WL.q; exact rfl; exact rfl; exact rfl; (first | (apply EvW.move; exact rfl) | (apply EvW.build; exact PlC.eq; exact ZvC.eq; exact rfl; exact rfl; (focus ((repeat (first | exact Fills.nil | (apply Fills.cons; exact rfl; (first | assumption | exact rfl); exact rfl) | exact SetMany.nil | apply SetMany.cons | apply SetMany.succ)); done)))))
    | refine WC.seq ?_ | refine WC.region ?_ | refine WL.nil ?_ | refine WE.next ?_
  try refine WL.wanted rfl rfl rfl ?_
  (apply WL.alloc; exact rfl; exact ZvC.eq; exact rfl; intro q)
  by_cases h0 : 0 ≤ sec
  rotate_left
  · rw [ocOf_out (fun h => h0 h.1), aliveP_out (by decide), lookP_dead]
    repeat first
      | (apply WL.q; exact rfl; exact rfl; exact rfl; (first | (apply EvW.move; exact rfl) | (apply EvW.cmpT; exact rfl; exact rfl; exact rfl; omega) | (apply EvW.pickT; exact rfl; exact rfl) | (apply EvW.loadAgg; exact rfl; exact AggC.eq; exact SzC.eq; (focus ((repeat constructor); done)); (focus ((repeat (first | exact SubL.nil | apply SubL.cons | apply SubL.succ)); done)))))
      | refine WC.seq ?_ | refine WC.region ?_ | refine WL.nil ?_ | refine WE.next ?_ | refine WC.condT rfl ?_ | refine WC.ret ?_ | refine WE.passRet ?_ | refine WL.unwanted rfl rfl rfl rfl ?_ | (apply WL.store; exact rfl; exact rfl; (first | assumption | exact rfl); exact SzC.eq; (first | assumption | exact rfl); (focus ((repeat constructor); done)))
    (apply WE.retC (A' := []); exact rfl; exact rfl; (focus ((repeat constructor); done)); exact AggC.eq; exact SzC.eq; exact fun _ h => h.keep (by repeat constructor))
    exact ⟨rfl, rfl⟩
  by_cases h1 : sec < x.c.secs.length
  rotate_left
  · rw [ocOf_out (fun h => h1 h.2), aliveP_out (by decide), lookP_dead]
    repeat first
      | (apply WL.q; exact rfl; exact rfl; exact rfl; (first | (apply EvW.move; exact rfl) | (apply EvW.nilPtr; exact rfl) | (apply EvW.fieldAddr0; exact rfl; exact FldC.eq) | (apply EvW.ldSeen; exact rfl; exact ScalC.eq; assumption; (first | exact rfl | assumption)) | (apply EvW.cmpT; exact rfl; exact rfl; exact rfl; omega) | (apply EvW.cmpF; exact rfl; exact rfl; exact rfl; omega) | (apply EvW.pickT; exact rfl; exact rfl) | (apply EvW.pickF; exact rfl; exact rfl) | (apply EvW.loadAgg; exact rfl; exact AggC.eq; exact SzC.eq; (focus ((repeat constructor); done)); (focus ((repeat (first | exact SubL.nil | apply SubL.cons | apply SubL.succ)); done))) | (apply EvW.lenRow; exact rfl; exact UndC.eq; assumption)))
      | refine WC.seq ?_ | refine WC.region ?_ | refine WL.nil ?_ | refine WE.next ?_ | refine WC.condT rfl ?_ | refine WC.ret ?_ | refine WE.passRet ?_ | refine WL.wanted rfl rfl rfl ?_ | refine WL.unwanted rfl rfl rfl rfl ?_ | (apply WL.store; exact rfl; exact rfl; (first | assumption | exact rfl); exact SzC.eq; (first | assumption | exact rfl); (focus ((repeat constructor); done)))
    (apply WE.retC (A' := []); exact rfl; exact rfl; (focus ((repeat constructor); done)); exact AggC.eq; exact SzC.eq; exact fun _ h => h.keep (by repeat constructor))
    exact ⟨rfl, rfl⟩
  rw [ocOf_in h0 h1]
  obtain ⟨oc, hoc⟩ : ∃ oc, (x.c.secs.getD sec.toNat default).oc = oc := ⟨_, rfl⟩
  obtain ⟨g, hg⟩ : ∃ g, aliveP x.st now x.c.age oc = g := ⟨_, rfl⟩
  repeat first
    | (apply WL.q; exact rfl; exact rfl; exact rfl; (first | (apply EvW.move; exact rfl) | (apply EvW.nilPtr; exact rfl) | (apply EvW.fieldAddr0; exact rfl; exact FldC.eq) | (apply EvW.ldSeen; exact rfl; exact ScalC.eq; assumption; (first | exact rfl | assumption)) | (apply EvW.ldFld; exact rfl; exact ScalC.eq; assumption; exact fun _ => rfl; omega; exact rfl; exact inferInstance) | (apply EvW.cmpF; exact rfl; exact rfl; exact rfl; omega) | (apply EvW.pickF; exact rfl; exact rfl) | (apply EvW.lenRow; exact rfl; exact UndC.eq; assumption) | (apply EvW.idxRow; exact rfl; exact rfl; exact UndC.eq; exact SzC.eq; assumption; omega; omega) | (apply EvW.fldRow; exact rfl; exact FldC.eq; assumption; omega)))
    | refine WC.seq ?_ | refine WC.region ?_ | refine WL.nil ?_ | refine WE.next ?_ | refine WL.wanted rfl rfl rfl ?_ | (apply WL.store; exact rfl; exact rfl; (first | assumption | exact rfl); exact SzC.eq; (first | assumption | exact rfl); (focus ((repeat constructor); done)))
  rw [hoc]
  try refine WL.wanted rfl rfl rfl ?_
  apply WL.callA ([])
  · exact rfl
  · exact rfl
  · exact fun w => Try.call15 _ w
  · (focus ((repeat constructor); done))
  · exact fun w1 S1 hS1 hs1 ho1 => aliveI_spec x now oc g w1 S1 hS1 (hx.down hs1) hw hg
  rintro _ _ ⟨rfl, rfl⟩
  first | refine WL.app4 ?_ | refine WL.app3 ?_ | refine WL.app2 ?_ | refine WL.app1 ?_ | refine WL.app0 ?_ | skip
  rw [hg]
  cases g with
  | false =>
    rw [lookP_dead]
    repeat first
      | (apply WL.q; exact rfl; exact rfl; exact rfl; (first | (apply EvW.pickF; exact rfl; exact rfl) | (apply EvW.notF; exact rfl) | (apply EvW.loadAgg; exact rfl; exact AggC.eq; exact SzC.eq; (focus ((repeat constructor); done)); (focus ((repeat (first | exact SubL.nil | apply SubL.cons | apply SubL.succ)); done)))))
      | refine WC.seq ?_ | refine WC.region ?_ | refine WL.nil ?_ | refine WE.next ?_ | refine WC.condT rfl ?_ | refine WC.ret ?_ | refine WE.passRet ?_ | refine WL.wanted rfl rfl rfl ?_ | (apply WL.store; exact rfl; exact rfl; (first | assumption | exact rfl); exact SzC.eq; (first | assumption | exact rfl); (focus ((repeat constructor); done)))
    (apply WE.retC (A' := []); exact rfl; exact rfl; (focus ((repeat constructor); done)); exact AggC.eq; exact SzC.eq; exact fun _ h => h.keep (by repeat constructor))
    exact ⟨rfl, rfl⟩
  | true =>
    have hin : 0 ≤ oc ∧ oc < 4 := by
      by_cases h : 0 ≤ oc ∧ oc < 4
      · exact h
      · rw [aliveP_out h] at hg; cases hg
    have hk := hx.v oc.toNat (by omega)
    have hat := Img.at (x := x) (k := oc.toNat) (by rw [hx.len]; omega)
    have hlen := hG.len oc hg
    obtain ⟨hr1, hr2⟩ := hG.row hk.sh
    obtain ⟨hr3, hr4⟩ := hG.row hk.sd
    have hvb := hk.blk
    have hoci : getL (secC (x.c.secs.getD sec.toNat default)) 1 = some (i64 oc) := by rw [← hoc]; rfl
    repeat first
      | (apply WL.q; exact rfl; exact rfl; exact rfl; (first | (apply EvW.pickF; exact rfl; exact rfl) | (apply EvW.notT; exact rfl)))
      | refine WC.seq ?_ | refine WL.nil ?_ | refine WE.next ?_ | refine WC.skip ?_ | refine WC.condF rfl ?_ | refine WL.wanted rfl rfl rfl ?_
    repeat refine WC.seq ?_
    refine WC.keep (xs := [.blk q #[i64 worst, i64 (-1), .bool false] 44, .blk r #[i64 0, i64 0, .bool false] 44]) (by repeat constructor) ?_
    apply WC.par _ (fun c : Ch => [.blk q #[i64 worst, i64 (-1), .bool false] 44, .blk r #[i64 0, i64 0, .bool false] 44]) [none, none] [none, none] [] Try.mixed
    · (focus ((repeat (first | exact Restr.nil | (apply Restr.keep; exact rfl; exact rfl) | (apply Restr.drop; exact rfl))); done))
    · intro c; exact (by repeat constructor)
    · exact rfl
    · decide +kernel
    · decide +kernel
    · intro c
      (apply Par.quiet _ [true, true]; exact rfl; decide +kernel; exact rfl; intro R; refine ⟨_, (by repeat constructor), ?_⟩;
           (first | (apply EvW.move; exact rfl)))
      (apply Par.quiet _ [true, true]; exact rfl; decide +kernel; exact rfl; intro R; refine ⟨_, (by repeat constructor), ?_⟩;
           (first | (apply EvW.nilPtr; exact rfl)))
      (apply Par.quiet _ [true, true]; exact rfl; decide +kernel; exact rfl; intro R; refine ⟨_, (by repeat constructor), ?_⟩;
           (first | (apply EvW.fieldAddr0; exact rfl; exact FldC.eq)))
      (apply Par.quiet _ [true, true]; exact rfl; decide +kernel; exact rfl; intro R; refine ⟨_, (by repeat constructor), ?_⟩;
           (first | (apply EvW.ldSeen; exact rfl; exact ScalC.eq; assumption; (first | exact rfl | assumption))))
      (apply Par.quiet _ [true, true]; exact rfl; decide +kernel; exact rfl; intro R; refine ⟨_, (by repeat constructor), ?_⟩;
           (first | (apply EvW.move; exact rfl)))
      (apply Par.quiet _ [true, true]; exact rfl; decide +kernel; exact rfl; intro R; refine ⟨_, (by repeat constructor), ?_⟩;
           (first | (apply EvW.nilPtr; exact rfl)))
      (apply Par.quiet _ [true, true]; exact rfl; decide +kernel; exact rfl; intro R; refine ⟨_, (by repeat constructor), ?_⟩;
           (first | (apply EvW.fieldAddr0; exact rfl; exact FldC.eq)))
      (apply Par.quiet _ [true, true]; exact rfl; decide +kernel; exact rfl; intro R; refine ⟨_, (by repeat constructor), ?_⟩;
           (first | (apply EvW.fieldAddr0; exact rfl; exact FldC.eq)))
      (apply Par.quiet _ [true, true]; exact rfl; decide +kernel; exact rfl; intro R; refine ⟨_, (by repeat constructor), ?_⟩;
           (first | (apply EvW.ldSeen; exact rfl; exact ScalC.eq; assumption; (first | exact rfl | assumption))))
      (apply Par.quiet _ [true, true]; exact rfl; decide +kernel; exact rfl; intro R; refine ⟨_, (by repeat constructor), ?_⟩;
           (first | (apply EvW.move; exact rfl)))
      (apply Par.quiet _ [true, true]; exact rfl; decide +kernel; exact rfl; intro R; refine ⟨_, (by repeat constructor), ?_⟩;
           (first | (apply EvW.idxRow; exact rfl; exact rfl; exact UndC.eq; exact SzC.eq; assumption; omega; omega)))
      (apply Par.quiet _ [true, true]; exact rfl; decide +kernel; exact rfl; intro R; refine ⟨_, (by repeat constructor), ?_⟩;
           (first | (apply EvW.fldRow; exact rfl; exact FldC.eq; assumption; omega)))
      apply Par.quiet _ [true, true]
      · exact rfl
      · decide +kernel
      · exact rfl
      · intro R
        refine ⟨_, (by repeat constructor), ?_⟩
        (apply EvW.ldFld (xs := x.c.secs) (f := secC) (i := sec.toNat) (off := 1) (q := i64 oc); exact rfl; exact ScalC.eq; exact hsec; exact fun _ => rfl; omega; exact hoci)
      (apply Par.quiet _ [true, true]; exact rfl; decide +kernel; exact rfl; intro R; refine ⟨_, (by repeat constructor), ?_⟩;
           (first | (apply EvW.idxRow; exact rfl; exact rfl; exact UndC.eq; exact SzC.eq; assumption; omega; omega)))
      apply Par.quiet _ [true, true]
      · exact rfl
      · decide +kernel
      · exact rfl
      · intro R
        refine ⟨_, (by repeat constructor), ?_⟩
        (apply EvW.ldRow (i := oc.toNat) (off := 0) (q := ptr ((x.vs.getD oc.toNat default)).b 0); exact rfl; exact ScalC.eq; assumption; exact hat)
      (apply Par.quiet _ [true, true]; exact rfl; decide +kernel; exact rfl; intro R; refine ⟨_, (by repeat constructor), ?_⟩;
           (first | (apply EvW.assign; exact rfl)))
      exact Par.nil
    · repeat (first | exact AllN.nil | (apply AllN.cons; (intro c x; (repeat (first | exact IndA.nil | (apply IndA.skip; decide +kernel) | apply IndA.same))))) 
    · repeat (first | exact AllN.nil | (apply AllN.cons; (intro c x; (repeat (first | exact IndT.nil | (apply IndT.skip; decide +kernel) | apply IndT.same))))) 
    · exact fun _ => rfl
    intro c
    refine ⟨_, (by repeat constructor), ?_⟩
    apply WE.writ
    · (focus ((repeat (first | exact Writ.nil | apply Writ.some | apply Writ.none)); done))
    repeat first
      | (apply WL.q; exact rfl; exact rfl; exact rfl; (first | (apply EvW.move; exact rfl)))
      | refine WC.seq ?_ | refine WC.region ?_ | refine WE.next ?_
    try refine WL.wanted rfl rfl rfl ?_
    apply WL.callV ([])
    · exact rfl
    · exact rfl
    · exact rfl
    · exact fun w => hP.call _ w
    · (focus ((repeat constructor); done))
    · exact fun w1 S1 hS1 hs1 ho1 => hP.ans ((x.vs.getD oc.toNat default)) w1 S1 hS1 (hs1 _ hvb)
    rintro _ _ ⟨rfl, rfl⟩
    refine WL.app0 ?_
    generalize hq1 : sel ((x.vs.getD oc.toNat default)).sh = q1 at hr1 hr2 hlen
    generalize hq2 : sel ((x.vs.getD oc.toNat default)).sd = q2 at hr3 hr4 hlen
    obtain ⟨n1, l1⟩ := q1
    obtain ⟨n2, l2⟩ := q2
    dsimp only at hr1 hr2 hr3 hr4 hlen ⊢
    have hlo := atF_lo el l1
    repeat first
      | (apply WL.q; exact rfl; exact rfl; exact rfl; (first | (apply EvW.move; exact rfl) | (apply EvW.assign; exact rfl) | (apply EvW.extract; exact rfl; exact rfl)))
      | refine WC.seq ?_ | refine WC.region ?_ | refine WL.nil ?_ | refine WE.next ?_
    try refine WL.wanted rfl rfl rfl ?_
    apply WL.callA ([])
    · exact rfl
    · exact rfl
    · exact fun w => Try.call61 _ w
    · (focus ((repeat constructor); done))
    · exact fun w1 S1 hS1 hs1 ho1 => indexI_spec l1 n1 el w1 S1 hS1 (hs1 _ hr1) hr2
    rintro _ _ ⟨rfl, rfl⟩
    first | refine WL.app4 ?_ | refine WL.app3 ?_ | refine WL.app2 ?_ | refine WL.app1 ?_ | refine WL.app0 ?_ | skip
    by_cases hi : atF l1 el < 0
    · rw [lookP_none hi]
      repeat first
        | (apply WL.q; exact rfl; exact rfl; exact rfl; (first | (apply EvW.move; exact rfl) | (apply EvW.assign; exact rfl) | (apply EvW.cmpT; exact rfl; exact rfl; exact rfl; omega) | (apply EvW.loadAgg; exact rfl; exact AggC.eq; exact SzC.eq; (focus ((repeat constructor); done)); (focus ((repeat (first | exact SubL.nil | apply SubL.cons | apply SubL.succ)); done)))))
        | refine WC.seq ?_ | refine WC.region ?_ | refine WL.nil ?_ | refine WE.next ?_ | refine WC.condT rfl ?_ | refine WC.ret ?_ | refine WE.passRet ?_ | (apply WL.store; exact rfl; exact rfl; (first | assumption | exact rfl); exact SzC.eq; (first | assumption | exact rfl); (focus ((repeat constructor); done)))
      (apply WE.retC (A' := []); exact rfl; exact rfl; (focus ((repeat constructor); done)); exact AggC.eq; exact SzC.eq; exact fun _ h => h.keep (by repeat constructor))
      exact ⟨rfl, rfl⟩
    · rw [lookP_some (by omega) (by omega)]
      repeat first
        | (apply WL.q; exact rfl; exact rfl; exact rfl; (first | (apply EvW.move; exact rfl) | (apply EvW.assign; exact rfl) | (apply EvW.cmpF; exact rfl; exact rfl; exact rfl; omega)))
        | refine WC.seq ?_ | refine WC.region ?_ | refine WL.nil ?_ | refine WE.next ?_ | refine WC.skip ?_ | refine WC.condF rfl ?_
      repeat refine WC.seq ?_
      refine WC.keep (xs := [.blk q #[i64 worst, i64 (-1), .bool false] 44, .blk r #[i64 0, i64 0, .bool false] 44]) (by repeat constructor) ?_
      apply WC.par _ (fun c : Ch => [.blk q #[i64 worst, i64 (-1), .bool false] 44, .blk r #[i64 0, i64 0, .bool false] 44, .blk r #[i64 (l2.getD (atF l1 el).toNat 0), i64 ((x.vs.getD oc.toNat default)).stamp, .bool true] 44]) [none, none, some 9] [none, some 9, none] [] Try.mixed
      · (focus ((repeat (first | exact Restr.nil | (apply Restr.keep; exact rfl; exact rfl) | (apply Restr.drop; exact rfl))); done))
      · intro c; exact (by repeat constructor)
      · exact rfl
      · decide +kernel
      · decide +kernel
      · intro c
        (apply Par.quiet _ [true, true, false]; exact rfl; decide +kernel; exact rfl; intro R; refine ⟨_, (by repeat constructor), ?_⟩;
             (first | (apply EvW.move; exact rfl)))
        (apply Par.quiet _ [true, true, false]; exact rfl; decide +kernel; exact rfl; intro R; refine ⟨_, (by repeat constructor), ?_⟩;
             (first | (apply EvW.move; exact rfl)))
        (apply Par.quiet _ [true, true, false]; exact rfl; decide +kernel; exact rfl; intro R; refine ⟨_, (by repeat constructor), ?_⟩;
             (first | (apply EvW.idxRow; exact rfl; exact rfl; exact UndC.eq; exact SzC.eq; assumption; omega; omega)))
        (apply Par.quiet _ [true, true, false]; exact rfl; decide +kernel; exact rfl; intro R; refine ⟨_, (by repeat constructor), ?_⟩;
             (first | (apply EvW.ldInt; exact rfl; exact ScalC.eq; assumption; omega)))
        (apply Par.quiet _ [true, true, false]; exact rfl; decide +kernel; exact rfl; intro R; refine ⟨_, (by repeat constructor), ?_⟩;
             (first | (apply EvW.move; exact rfl)))
        (apply Par.quiet _ [true, true, false]; exact rfl; decide +kernel; exact rfl; intro R; refine ⟨_, (by repeat constructor), ?_⟩;
             (first | (apply EvW.nilPtr; exact rfl)))
        (apply Par.quiet _ [true, true, false]; exact rfl; decide +kernel; exact rfl; intro R; refine ⟨_, (by repeat constructor), ?_⟩;
             (first | (apply EvW.fieldAddr0; exact rfl; exact FldC.eq)))
        (apply Par.quiet _ [true, true, false]; exact rfl; decide +kernel; exact rfl; intro R; refine ⟨_, (by repeat constructor), ?_⟩;
             (first | (apply EvW.ldSeen; exact rfl; exact ScalC.eq; assumption; (first | exact rfl | assumption))))
        (apply Par.quiet _ [true, true, false]; exact rfl; decide +kernel; exact rfl; intro R; refine ⟨_, (by repeat constructor), ?_⟩;
             (first | (apply EvW.build; exact PlC.eq; exact ZvC.eq; exact rfl; exact rfl; (focus ((repeat (first | exact Fills.nil | (apply Fills.cons; exact rfl; (first | assumption | exact rfl); exact rfl) | exact SetMany.nil | apply SetMany.cons | apply SetMany.succ)); done)))))
        (apply Par.eff _ [false, true, false] [false, false, true] [true, false, false]; exact rfl; exact rfl; decide +kernel; intro R; refine ⟨_, _, _, (by repeat constructor), (by repeat constructor), (by repeat constructor), ?_⟩; (apply EffW.store; exact rfl; exact rfl; (first | assumption | exact rfl); exact SzC.eq; (first | assumption | exact rfl); (focus ((repeat constructor); done))))
        exact Par.nil
      · repeat (first | exact AllN.nil | (apply AllN.cons; (intro c x; (repeat (first | exact IndA.nil | (apply IndA.skip; decide +kernel) | apply IndA.same))))) 
      · repeat (first | exact AllN.nil | (apply AllN.cons; (intro c x; (repeat (first | exact IndT.nil | (apply IndT.skip; decide +kernel) | apply IndT.same))))) 
      · exact fun _ => rfl
      intro c
      refine ⟨_, (by repeat constructor), ?_⟩
      apply WE.writ
      · (focus ((repeat (first | exact Writ.nil | apply Writ.some | apply Writ.none)); done))
      repeat first
        | refine WE.next ?_ | refine WC.ret ?_
      (apply WE.retC (A' := []); exact rfl; exact rfl; (focus ((repeat constructor); done)); exact AggC.eq; exact SzC.eq; exact fun _ h => h.keep (by repeat constructor))
      exact ⟨rfl, rfl⟩
end Go.Proofs.Ytamofjpadnnppaa
