/- The laws of the desk's bytes: the desk against the document, and there and back. -/
import Derived.Test.YtehgfhjocfaciaaDeskM
import Derived.Test.YtehgfhjocfaciaaDeskV
import Derived.Test.YtehgfhjocfaciaaLibT
namespace Go.Proofs.Ytehgfhjocfaciaa
open Go.RowKit Go.BK

theorem put_stepD {m : PW} {b : List UInt8} (h : (m.put b).e = 0) : m.e = 0 ∧ (m.put b).out = m.out ++ b := by
  unfold PW.put at h ⊢
  split at h
  · simp only [PW.note] at h
    split at h
    · omega
    · contradiction
  · rename_i hc
    rw [if_neg hc]
    split at h
    · rename_i he
      rw [if_pos he]
      exact ⟨he, rfl⟩
    · contradiction
theorem num_stepD {m : PW} {k : Nat} {x : Int} (h : (m.num k x).e = 0) : m.e = 0 ∧ (0 ≤ x ∧ x < 256 ^ k) ∧ (m.num k x).out = m.out ++ be k x := by
  by_cases hb : x < 0 ∨ 256 ^ k ≤ x
  · rw [num_wrong k m x hb] at h
    simp only [PW.note] at h
    split at h
    · omega
    · contradiction
  · have h0 : 0 ≤ x ∧ x < 256 ^ k := by omega
    rw [num_right k m x h0.1 h0.2] at h ⊢
    exact ⟨(put_stepD h).1, h0, (put_stepD h).2⟩
theorem num_okD (k : Nat) (m : PW) (x : Int) (he : m.e = 0) (h0 : 0 ≤ x) (h1 : x < 256 ^ k) (hr : (m.out.length : Int) + k ≤ m.lim) : m.num k x = ⟨0, m.out ++ be k x, m.lim⟩ := by
  rw [num_right k m x h0 h1]
  unfold PW.put
  rw [if_neg (by rw [be_length]; omega), if_pos he]
  cases m
  simp only [PW.add] at he ⊢
  rw [he]
def cBytes (c : Cmd) : List UInt8 := be 1 c.k ++ (be 1 c.s ++ (be 2 c.n ++ (be 2 c.v ++ [])))
def yBytes (r : Rep) : List UInt8 := be 1 100 ++ (be 1 r.c ++ (be 4 r.v ++ []))
structure Cmd.small (c : Cmd) : Prop where
  k : 0 ≤ c.k ∧ c.k < 256
  s : 0 ≤ c.s ∧ c.s < 256
  n : 0 ≤ c.n ∧ c.n < 65536
  v : 0 ≤ c.v ∧ c.v < 65536
structure Rep.small (r : Rep) : Prop where
  c : 0 ≤ r.c ∧ r.c < 256
  v : 0 ≤ r.v ∧ r.v < 4294967296
theorem cM_step {c : Cmd} (h : (cM c).e = 0) : c.small ∧ (cM c).out = cBytes c := by
  have h4 : (PW.num 2 (PW.num 2 (PW.num 1 (PW.num 1 (PW.init 6) c.k) c.s) c.n) c.v).e = 0 := h
  obtain ⟨h3, b4, o4⟩ := num_stepD h4
  obtain ⟨h2, b3, o3⟩ := num_stepD h3
  obtain ⟨h1, b2, o2⟩ := num_stepD h2
  obtain ⟨_, b1, o1⟩ := num_stepD h1
  refine ⟨⟨by simpa using b1, by simpa using b2, by simpa using b3, by simpa using b4⟩, ?_⟩
  show (PW.num 2 (PW.num 2 (PW.num 1 (PW.num 1 (PW.init 6) c.k) c.s) c.n) c.v).out = _
  rw [o4, o3, o2, o1]
  simp [cBytes, PW.init]
theorem cM_of {c : Cmd} (h : c.small) : cM c = ⟨0, cBytes c, 6⟩ := by
  show PW.num 2 (PW.num 2 (PW.num 1 (PW.num 1 (PW.init 6) c.k) c.s) c.n) c.v = _
  rw [num_okD 1 (PW.init 6) c.k rfl h.k.1 (by simpa using h.k.2) (by decide)]
  rw [num_okD 1 _ c.s rfl h.s.1 (by simpa using h.s.2) (by simp [PW.init, be_length] <;> decide)]
  rw [num_okD 2 _ c.n rfl h.n.1 (by simpa using h.n.2) (by simp [PW.init, be_length] <;> decide)]
  rw [num_okD 2 _ c.v rfl h.v.1 (by simpa using h.v.2) (by simp [PW.init, be_length] <;> decide)]
  simp [cBytes, PW.init] <;> decide
theorem yM_step {r : Rep} (h : (yM r).e = 0) : r.small ∧ (yM r).out = yBytes r := by
  have h3 : (PW.num 4 (PW.num 1 (PW.num 1 (PW.init 6) 100) r.c) r.v).e = 0 := h
  obtain ⟨h2, b3, o3⟩ := num_stepD h3
  obtain ⟨h1, b2, o2⟩ := num_stepD h2
  obtain ⟨_, b1, o1⟩ := num_stepD h1
  refine ⟨⟨by simpa using b2, by simpa using b3⟩, ?_⟩
  show (PW.num 4 (PW.num 1 (PW.num 1 (PW.init 6) 100) r.c) r.v).out = _
  rw [o3, o2, o1]
  simp [yBytes, PW.init]
theorem yM_of {r : Rep} (h : r.small) : yM r = ⟨0, yBytes r, 6⟩ := by
  show PW.num 4 (PW.num 1 (PW.num 1 (PW.init 6) 100) r.c) r.v = _
  rw [num_okD 1 (PW.init 6) 100 rfl (by decide) (by decide) (by decide)]
  rw [num_okD 1 _ r.c rfl h.c.1 (by simpa using h.c.2) (by simp [PW.init, be_length] <;> decide)]
  rw [num_okD 4 _ r.v rfl h.v.1 (by simpa using h.v.2) (by simp [PW.init, be_length] <;> decide)]
  simp [yBytes, PW.init] <;> decide
theorem cBytes_len (c : Cmd) : (cBytes c).length = 6 := by simp [cBytes, be_length]
theorem yBytes_len (c : Rep) : (yBytes c).length = 6 := by simp [yBytes, be_length]
theorem num_app (k : Nat) (x : Int) (t : List UInt8) (h : numOf (be k x) = x) : (PR.mk 0 (be k x ++ t)).num k = (x, PR.mk 0 t) := by
  rw [num_good (PR.mk 0 (be k x ++ t)) k rfl (by simp [be_length])]
  dsimp only
  rw [List.take_left' (be_length k x), List.drop_left' (be_length k x), h]
theorem sealed_step {m : PW} {t : List UInt8} (h : sealedF m = (t, 0)) (hl : m.out.length ≤ 6) : m.e = 0 ∧ t = frame m.out := by
  unfold sealedF at h
  split at h
  · rename_i he
    rw [sealF_ok _ (by omega)] at h
    exact ⟨he, (congrArg Prod.fst h).symm⟩
  · rename_i he
    exact absurd (congrArg Prod.snd h) he
theorem cmd_back {c : Cmd} {t : List UInt8} (h : cmdF c = (t, 0)) : rcF t = (c, 0) ∧ t.length = 12 := by
  unfold cmdF at h
  by_cases hk : btw c.k 1 11 = true
  rotate_left
  · rw [if_neg hk] at h; exact absurd (congrArg Prod.snd h) (by simp)
  rw [if_pos hk] at h
  obtain ⟨he, rfl⟩ := sealed_step h (cM_out c)
  obtain ⟨hs, ho⟩ := cM_step he
  rw [ho]
  refine ⟨?_, by rw [frame_length, cBytes_len]⟩
  have e1 : c1 (cBytes c) = _ := num_app 1 c.k _ (numOf_be1 _ hs.k.1 hs.k.2)
  have e2 : c2 (cBytes c) = (c.s, PR.mk 0 (be 2 c.n ++ (be 2 c.v ++ []))) := by unfold c2; rw [e1]; exact num_app 1 c.s _ (numOf_be1 _ hs.s.1 hs.s.2)
  have e3 : c3 (cBytes c) = (c.n, PR.mk 0 (be 2 c.v ++ [])) := by unfold c3; rw [e2]; exact num_app 2 c.n _ (numOf_be2 _ hs.n.1 hs.n.2)
  have e4 : c4 (cBytes c) = (c.v, PR.mk 0 []) := by unfold c4; rw [e3]; exact num_app 2 c.v _ (numOf_be2 _ hs.v.1 hs.v.2)
  unfold rcF
  rw [openF_frame _ (by rw [cBytes_len]; decide)]
  dsimp only
  rw [if_neg (by decide), if_neg (by rw [cBytes_len]; decide), e1, e2, e3, e4]
  dsimp only
  rw [if_pos hk]
theorem rep_back {r : Rep} {t : List UInt8} (h : repF r = (t, 0)) : rpF t = (r, 0) ∧ t.length = 12 := by
  unfold repF at h
  obtain ⟨he, rfl⟩ := sealed_step h (yM_out r)
  obtain ⟨hs, ho⟩ := yM_step he
  rw [ho]
  refine ⟨?_, by rw [frame_length, yBytes_len]⟩
  have e1 : c1 (yBytes r) = _ := num_app 1 100 _ (numOf_be1 _ (by decide) (by decide))
  have e2 : c2 (yBytes r) = (r.c, PR.mk 0 (be 4 r.v ++ [])) := by unfold c2; rw [e1]; exact num_app 1 r.c _ (numOf_be1 _ hs.c.1 hs.c.2)
  have e3 : d3 (yBytes r) = (r.v, PR.mk 0 []) := by unfold d3; rw [e2]; exact num_app 4 r.v _ (numOf_be4 _ hs.v.1 hs.v.2)
  unfold rpF
  rw [openF_frame _ (by rw [yBytes_len]; decide)]
  dsimp only
  rw [if_neg (by decide), if_neg (by rw [yBytes_len]; decide), e1, e2, e3]
  dsimp only
  rw [if_pos rfl]
theorem six_of {b : List UInt8} (h : (b.length : Int) = 6) : ∃ x0 x1 x2 x3 x4 x5, b = [x0, x1, x2, x3, x4, x5] := by
  match b, h with
  | [x0, x1, x2, x3, x4, x5], _ => exact ⟨x0, x1, x2, x3, x4, x5, rfl⟩
  | [], h => simp at h
  | [_], h => simp at h
  | [_, _], h => simp at h
  | [_, _, _], h => simp at h
  | [_, _, _, _], h => simp at h
  | [_, _, _, _, _], h => simp at h
  | _ :: _ :: _ :: _ :: _ :: _ :: _ :: _, h => simp at h; omega
theorem rc_cases {l : List UInt8} {a : Cmd} (h : rcF l = (a, 0)) : ∃ b, openF l = (b, 0) ∧ (b.length : Int) = 6 ∧ btw (c1 b).1 1 11 = true ∧ a = ⟨(c1 b).1, (c2 b).1, (c3 b).1, (c4 b).1⟩ := by
  unfold rcF at h
  obtain ⟨b, e, hb⟩ : ∃ b e, openF l = (b, e) := ⟨_, _, rfl⟩
  rw [hb] at h
  dsimp only at h
  by_cases he : e = 0
  rotate_left
  · rw [if_pos he] at h; exact absurd (congrArg Prod.snd h) he
  rw [if_neg (fun k => k he)] at h
  by_cases h6 : (b.length : Int) = 6
  rotate_left
  · rw [if_pos h6] at h; exact absurd (congrArg Prod.snd h) (by simp)
  rw [if_neg (fun k => k h6)] at h
  by_cases hk : btw (c1 b).1 1 11 = true
  rotate_left
  · rw [if_neg hk] at h; exact absurd (congrArg Prod.snd h) (by simp)
  rw [if_pos hk] at h
  exact ⟨b, by rw [hb, he], h6, hk, (congrArg Prod.fst h).symm⟩
theorem rp_cases {l : List UInt8} {a : Rep} (h : rpF l = (a, 0)) : ∃ b, openF l = (b, 0) ∧ (b.length : Int) = 6 ∧ (c1 b).1 = 100 ∧ a = ⟨(c2 b).1, (d3 b).1⟩ := by
  unfold rpF at h
  obtain ⟨b, e, hb⟩ : ∃ b e, openF l = (b, e) := ⟨_, _, rfl⟩
  rw [hb] at h
  dsimp only at h
  by_cases he : e = 0
  rotate_left
  · rw [if_pos he] at h; exact absurd (congrArg Prod.snd h) he
  rw [if_neg (fun k => k he)] at h
  by_cases h6 : (b.length : Int) = 6
  rotate_left
  · rw [if_pos h6] at h; exact absurd (congrArg Prod.snd h) (by simp)
  rw [if_neg (fun k => k h6)] at h
  by_cases hk : (c1 b).1 = 100
  rotate_left
  · rw [if_neg hk] at h; exact absurd (congrArg Prod.snd h) (by simp)
  rw [if_pos hk] at h
  exact ⟨b, by rw [hb, he], h6, hk, (congrArg Prod.fst h).symm⟩
theorem c1_six (x0 x1 x2 x3 x4 x5 : UInt8) : c1 [x0, x1, x2, x3, x4, x5] = (numOf [x0], PR.mk 0 [x1, x2, x3, x4, x5]) := num_good (PR.mk 0 [x0, x1, x2, x3, x4, x5]) 1 rfl (by simp)
theorem c2_six (x0 x1 x2 x3 x4 x5 : UInt8) : c2 [x0, x1, x2, x3, x4, x5] = (numOf [x1], PR.mk 0 [x2, x3, x4, x5]) := by
  unfold c2; rw [c1_six]; exact num_good (PR.mk 0 [x1, x2, x3, x4, x5]) 1 rfl (by simp)
theorem c3_six (x0 x1 x2 x3 x4 x5 : UInt8) : c3 [x0, x1, x2, x3, x4, x5] = (numOf [x2, x3], PR.mk 0 [x4, x5]) := by
  unfold c3; rw [c2_six]; exact num_good (PR.mk 0 [x2, x3, x4, x5]) 2 rfl (by simp)
theorem c4_six (x0 x1 x2 x3 x4 x5 : UInt8) : c4 [x0, x1, x2, x3, x4, x5] = (numOf [x4, x5], PR.mk 0 []) := by
  unfold c4; rw [c3_six]; exact num_good (PR.mk 0 [x4, x5]) 2 rfl (by simp)
theorem d3_six (x0 x1 x2 x3 x4 x5 : UInt8) : d3 [x0, x1, x2, x3, x4, x5] = (numOf [x2, x3, x4, x5], PR.mk 0 []) := by
  unfold d3; rw [c2_six]; exact num_good (PR.mk 0 [x2, x3, x4, x5]) 4 rfl (by simp)
theorem cmd_read {l : List UInt8} {a : Cmd} (h : rcF l = (a, 0)) : cmdF a = (l, 0) := by
  obtain ⟨b, hb, h6, hk, rfl⟩ := rc_cases h
  obtain ⟨rfl, hl⟩ := openF_ok hb
  obtain ⟨x0, x1, x2, x3, x4, x5, rfl⟩ := six_of h6
  unfold cmdF
  rw [if_pos hk, c1_six, c2_six, c3_six, c4_six]
  dsimp only
  have b0 := numOf_bd [x0]
  have b1 := numOf_bd [x1]
  have b2 := numOf_bd [x2, x3]
  have b3 := numOf_bd [x4, x5]
  have hs : (Cmd.mk (numOf [x0]) (numOf [x1]) (numOf [x2, x3]) (numOf [x4, x5])).small := ⟨by simpa using b0, by simpa using b1, by simpa using b2, by simpa using b3⟩
  rw [cM_of hs]
  unfold sealedF
  rw [if_pos rfl]
  have e : cBytes (Cmd.mk (numOf [x0]) (numOf [x1]) (numOf [x2, x3]) (numOf [x4, x5])) = [x0, x1, x2, x3, x4, x5] := by
    unfold cBytes
    dsimp only
    rw [be_numOf [x0] 1 (by decide) rfl, be_numOf [x1] 1 (by decide) rfl, be_numOf [x2, x3] 2 (by decide) rfl, be_numOf [x4, x5] 2 (by decide) rfl]
    rfl
  rw [e]
  exact sealF_ok _ hl
theorem rep_read {l : List UInt8} {a : Rep} (h : rpF l = (a, 0)) : repF a = (l, 0) := by
  obtain ⟨b, hb, h6, hk, rfl⟩ := rp_cases h
  obtain ⟨rfl, hl⟩ := openF_ok hb
  obtain ⟨x0, x1, x2, x3, x4, x5, rfl⟩ := six_of h6
  rw [c1_six] at hk
  dsimp only at hk
  unfold repF
  rw [c2_six, d3_six]
  dsimp only
  have b1 := numOf_bd [x1]
  have b2 := numOf_bd [x2, x3, x4, x5]
  have hs : (Rep.mk (numOf [x1]) (numOf [x2, x3, x4, x5])).small := ⟨by simpa using b1, by simpa using b2⟩
  rw [yM_of hs]
  unfold sealedF
  rw [if_pos rfl]
  have e : yBytes (Rep.mk (numOf [x1]) (numOf [x2, x3, x4, x5])) = [x0, x1, x2, x3, x4, x5] := by
    unfold yBytes
    dsimp only
    rw [← hk, be_numOf [x0] 1 (by decide) rfl, be_numOf [x1] 1 (by decide) rfl, be_numOf [x2, x3, x4, x5] 4 (by decide) rfl]
    rfl
  rw [e]
  exact sealF_ok _ hl
theorem no_both {l : List UInt8} {a : Cmd} {r : Rep} (h : rcF l = (a, 0)) (h' : rpF l = (r, 0)) : False := by
  obtain ⟨b, hb, h6, hk, _⟩ := rc_cases h
  obtain ⟨b', hb', _, hk', _⟩ := rp_cases h'
  rw [hb] at hb'
  obtain rfl := congrArg Prod.fst hb'
  dsimp only at hk'
  rw [hk'] at hk
  exact absurd (btw_t.1 hk) (by decide)
set_option maxHeartbeats 2000000 in
theorem deskBytes_law (c : Cmd) (r : Rep) (l : List UInt8) (w : World) (S : BSet) (hS : (sepL []).sat S w) (h1 : c.k ≤ 9223372036854775807) (h2 : c.s ≤ 9223372036854775807) (h3 : c.n ≤ 9223372036854775807) (h4 : c.v ≤ 9223372036854775807) (h5 : r.c ≤ 9223372036854775807) (h6 : r.v ≤ 9223372036854775807) (hl : l.length ≤ 140737488355328) :
    Tri Try.prog 8 #[.agg #[i64 (c).k, i64 (c).s, i64 (c).n, i64 (c).v], .agg #[i64 (r).c, i64 (r).v], str l] w S fun u A => u = .bool true := by
  refine Tri.enter (l := [.agg #[i64 (c).k, i64 (c).s, i64 (c).n, i64 (c).v], .agg #[i64 (r).c, i64 (r).v], str l]) Try.func8 rfl Try.ntmps8 rfl [(0, .agg #[i64 (c).k, i64 (c).s, i64 (c).n, i64 (c).v]), (1, .agg #[i64 (r).c, i64 (r).v]), (2, str l)] (subA rfl) hS ?_
  obtain ⟨p, hp⟩ : ∃ p, rcF l = p := ⟨_, rfl⟩
  obtain ⟨y, hy⟩ : ∃ y, rpF l = y := ⟨_, rfl⟩
  repeat first
    | (apply WL.q; exact rfl; exact rfl; exact rfl; (first | (apply EvW.move; exact rfl) | (apply EvW.assign; exact rfl) | (apply EvW.ldSeen; exact rfl; exact ScalC.eq; assumption; (first | exact rfl | assumption)) | (apply EvW.ldFld; exact rfl; exact ScalC.eq; assumption; exact fun _ => rfl; omega; exact rfl; exact inferInstance) | (apply EvW.extract; exact rfl; exact rfl) | (apply EvW.cmpT; exact rfl; exact rfl; exact rfl; omega) | (apply EvW.cmpF; exact rfl; exact rfl; exact rfl; omega) | (apply EvW.cmp; exact rfl; exact rfl; exact rfl) | (apply EvW.pickT; exact rfl; exact rfl) | (apply EvW.pickF; exact rfl; exact rfl) | (apply EvW.notT; exact rfl) | (apply EvW.notF; exact rfl) | (apply EvW.notP; exact rfl) | (apply EvW.sneS; exact rfl; exact rfl) | (apply EvW.sne; exact rfl; exact rfl) | (apply EvW.loadAgg; exact rfl; exact AggC.eq; exact SzC.eq; (focus ((repeat (first | exact Take.head | apply Take.tail)); done)); (focus ((repeat (first | exact SubL.nil | apply SubL.cons | apply SubL.succ)); done)))))
    | refine WC.seq ?_ | refine WC.region ?_ | refine WL.nil ?_ | refine WE.next ?_ | refine WC.skip ?_ | refine WC.exit ?_ | refine WE.pass ?_ | refine WE.hit ?_ | refine WE.miss rfl ?_ | refine WE.out ?_ | refine WC.condT rfl ?_ | refine WC.condF rfl ?_ | refine WC.ret ?_ | refine WE.passRet ?_ | refine WE.outRet ?_ | refine WL.wanted rfl rfl rfl ?_ | refine WL.unwanted rfl rfl rfl rfl ?_ | refine WL.unwantedU rfl rfl rfl rfl ?_ | refine WL.unwanted0 rfl rfl rfl ?_ | (apply WL.store; exact rfl; exact rfl; (first | assumption | exact rfl); exact SzC.eq; (first | assumption | exact rfl); (focus ((repeat (first | apply UpdC.head | apply UpdC.tail | exact SetMany.nil | apply SetMany.cons | apply SetMany.succ)); done)))
  try refine WL.wanted rfl rfl rfl ?_
  (apply WL.box; exact rfl; exact rfl; exact rfl; intro q1)
  repeat first
    | (apply WL.q; exact rfl; exact rfl; exact rfl; (first | (apply EvW.move; exact rfl) | (apply EvW.assign; exact rfl) | (apply EvW.ldSeen; exact rfl; exact ScalC.eq; assumption; (first | exact rfl | assumption)) | (apply EvW.ldFld; exact rfl; exact ScalC.eq; assumption; exact fun _ => rfl; omega; exact rfl; exact inferInstance) | (apply EvW.extract; exact rfl; exact rfl) | (apply EvW.cmpT; exact rfl; exact rfl; exact rfl; omega) | (apply EvW.cmpF; exact rfl; exact rfl; exact rfl; omega) | (apply EvW.cmp; exact rfl; exact rfl; exact rfl) | (apply EvW.pickT; exact rfl; exact rfl) | (apply EvW.pickF; exact rfl; exact rfl) | (apply EvW.notT; exact rfl) | (apply EvW.notF; exact rfl) | (apply EvW.notP; exact rfl) | (apply EvW.sneS; exact rfl; exact rfl) | (apply EvW.sne; exact rfl; exact rfl) | (apply EvW.loadAgg; exact rfl; exact AggC.eq; exact SzC.eq; (focus ((repeat (first | exact Take.head | apply Take.tail)); done)); (focus ((repeat (first | exact SubL.nil | apply SubL.cons | apply SubL.succ)); done)))))
    | refine WC.seq ?_ | refine WC.region ?_ | refine WL.nil ?_ | refine WE.next ?_ | refine WC.skip ?_ | refine WC.exit ?_ | refine WE.pass ?_ | refine WE.hit ?_ | refine WE.miss rfl ?_ | refine WE.out ?_ | refine WC.condT rfl ?_ | refine WC.condF rfl ?_ | refine WC.ret ?_ | refine WE.passRet ?_ | refine WE.outRet ?_ | refine WL.wanted rfl rfl rfl ?_ | refine WL.unwanted rfl rfl rfl rfl ?_ | refine WL.unwantedU rfl rfl rfl rfl ?_ | refine WL.unwanted0 rfl rfl rfl ?_ | (apply WL.store; exact rfl; exact rfl; (first | assumption | exact rfl); exact SzC.eq; (first | assumption | exact rfl); (focus ((repeat (first | apply UpdC.head | apply UpdC.tail | exact SetMany.nil | apply SetMany.cons | apply SetMany.succ)); done)))
  try refine WL.wanted rfl rfl rfl ?_
  (apply WL.box; exact rfl; exact rfl; exact rfl; intro q2)
  repeat first
    | (apply WL.q; exact rfl; exact rfl; exact rfl; (first | (apply EvW.move; exact rfl) | (apply EvW.assign; exact rfl) | (apply EvW.ldSeen; exact rfl; exact ScalC.eq; assumption; (first | exact rfl | assumption)) | (apply EvW.ldFld; exact rfl; exact ScalC.eq; assumption; exact fun _ => rfl; omega; exact rfl; exact inferInstance) | (apply EvW.extract; exact rfl; exact rfl) | (apply EvW.cmpT; exact rfl; exact rfl; exact rfl; omega) | (apply EvW.cmpF; exact rfl; exact rfl; exact rfl; omega) | (apply EvW.cmp; exact rfl; exact rfl; exact rfl) | (apply EvW.pickT; exact rfl; exact rfl) | (apply EvW.pickF; exact rfl; exact rfl) | (apply EvW.notT; exact rfl) | (apply EvW.notF; exact rfl) | (apply EvW.notP; exact rfl) | (apply EvW.sneS; exact rfl; exact rfl) | (apply EvW.sne; exact rfl; exact rfl) | (apply EvW.loadAgg; exact rfl; exact AggC.eq; exact SzC.eq; (focus ((repeat (first | exact Take.head | apply Take.tail)); done)); (focus ((repeat (first | exact SubL.nil | apply SubL.cons | apply SubL.succ)); done)))))
    | refine WC.seq ?_ | refine WC.region ?_ | refine WL.nil ?_ | refine WE.next ?_ | refine WC.skip ?_ | refine WC.exit ?_ | refine WE.pass ?_ | refine WE.hit ?_ | refine WE.miss rfl ?_ | refine WE.out ?_ | refine WC.condT rfl ?_ | refine WC.condF rfl ?_ | refine WC.ret ?_ | refine WE.passRet ?_ | refine WE.outRet ?_ | refine WL.wanted rfl rfl rfl ?_ | refine WL.unwanted rfl rfl rfl rfl ?_ | refine WL.unwantedU rfl rfl rfl rfl ?_ | refine WL.unwanted0 rfl rfl rfl ?_ | (apply WL.store; exact rfl; exact rfl; (first | assumption | exact rfl); exact SzC.eq; (first | assumption | exact rfl); (focus ((repeat (first | apply UpdC.head | apply UpdC.tail | exact SetMany.nil | apply SetMany.cons | apply SetMany.succ)); done)))
  try refine WL.wanted rfl rfl rfl ?_
  apply WL.callA ([])
  · exact rfl
  · exact rfl
  · exact fun w => Try.call10 _ w
  · (focus ((repeat (first | exact TakeL.nil | apply TakeL.cons | exact Take.head | apply Take.tail)); done))
  · exact fun w1 S1 hS1 hs1 ho1 => lives17_spec w1 S1 hS1
  rintro _ _ ⟨rfl, rfl⟩
  first | refine WL.app4 ?_ | refine WL.app3 ?_ | refine WL.app2 ?_ | refine WL.app1 ?_ | refine WL.app0 ?_ | skip
  repeat first
    | (apply WL.q; exact rfl; exact rfl; exact rfl; (first | (apply EvW.move; exact rfl) | (apply EvW.assign; exact rfl) | (apply EvW.ldSeen; exact rfl; exact ScalC.eq; assumption; (first | exact rfl | assumption)) | (apply EvW.ldFld; exact rfl; exact ScalC.eq; assumption; exact fun _ => rfl; omega; exact rfl; exact inferInstance) | (apply EvW.extract; exact rfl; exact rfl) | (apply EvW.cmpT; exact rfl; exact rfl; exact rfl; omega) | (apply EvW.cmpF; exact rfl; exact rfl; exact rfl; omega) | (apply EvW.cmp; exact rfl; exact rfl; exact rfl) | (apply EvW.pickT; exact rfl; exact rfl) | (apply EvW.pickF; exact rfl; exact rfl) | (apply EvW.notT; exact rfl) | (apply EvW.notF; exact rfl) | (apply EvW.notP; exact rfl) | (apply EvW.sneS; exact rfl; exact rfl) | (apply EvW.sne; exact rfl; exact rfl) | (apply EvW.loadAgg; exact rfl; exact AggC.eq; exact SzC.eq; (focus ((repeat (first | exact Take.head | apply Take.tail)); done)); (focus ((repeat (first | exact SubL.nil | apply SubL.cons | apply SubL.succ)); done)))))
    | refine WC.seq ?_ | refine WC.region ?_ | refine WL.nil ?_ | refine WE.next ?_ | refine WC.skip ?_ | refine WC.exit ?_ | refine WE.pass ?_ | refine WE.hit ?_ | refine WE.miss rfl ?_ | refine WE.out ?_ | refine WC.condT rfl ?_ | refine WC.condF rfl ?_ | refine WC.ret ?_ | refine WE.passRet ?_ | refine WE.outRet ?_ | refine WL.wanted rfl rfl rfl ?_ | refine WL.unwanted rfl rfl rfl rfl ?_ | refine WL.unwantedU rfl rfl rfl rfl ?_ | refine WL.unwanted0 rfl rfl rfl ?_ | (apply WL.store; exact rfl; exact rfl; (first | assumption | exact rfl); exact SzC.eq; (first | assumption | exact rfl); (focus ((repeat (first | apply UpdC.head | apply UpdC.tail | exact SetMany.nil | apply SetMany.cons | apply SetMany.succ)); done)))
  try refine WL.wanted rfl rfl rfl ?_
  apply WL.callA ([])
  · exact rfl
  · exact rfl
  · exact fun w => Try.call17 _ w
  · (focus ((repeat (first | exact TakeL.nil | apply TakeL.cons | exact Take.head | apply Take.tail)); done))
  · exact fun w1 S1 hS1 hs1 ho1 => command_spec c w1 S1 hS1
  rintro _ _ ⟨rfl, rfl⟩
  first | refine WL.app4 ?_ | refine WL.app3 ?_ | refine WL.app2 ?_ | refine WL.app1 ?_ | refine WL.app0 ?_ | skip
  repeat first
    | (apply WL.q; exact rfl; exact rfl; exact rfl; (first | (apply EvW.move; exact rfl) | (apply EvW.assign; exact rfl) | (apply EvW.ldSeen; exact rfl; exact ScalC.eq; assumption; (first | exact rfl | assumption)) | (apply EvW.ldFld; exact rfl; exact ScalC.eq; assumption; exact fun _ => rfl; omega; exact rfl; exact inferInstance) | (apply EvW.extract; exact rfl; exact rfl) | (apply EvW.cmpT; exact rfl; exact rfl; exact rfl; omega) | (apply EvW.cmpF; exact rfl; exact rfl; exact rfl; omega) | (apply EvW.cmp; exact rfl; exact rfl; exact rfl) | (apply EvW.pickT; exact rfl; exact rfl) | (apply EvW.pickF; exact rfl; exact rfl) | (apply EvW.notT; exact rfl) | (apply EvW.notF; exact rfl) | (apply EvW.notP; exact rfl) | (apply EvW.sneS; exact rfl; exact rfl) | (apply EvW.sne; exact rfl; exact rfl) | (apply EvW.loadAgg; exact rfl; exact AggC.eq; exact SzC.eq; (focus ((repeat (first | exact Take.head | apply Take.tail)); done)); (focus ((repeat (first | exact SubL.nil | apply SubL.cons | apply SubL.succ)); done)))))
    | refine WC.seq ?_ | refine WC.region ?_ | refine WL.nil ?_ | refine WE.next ?_ | refine WC.skip ?_ | refine WC.exit ?_ | refine WE.pass ?_ | refine WE.hit ?_ | refine WE.miss rfl ?_ | refine WE.out ?_ | refine WC.condT rfl ?_ | refine WC.condF rfl ?_ | refine WC.ret ?_ | refine WE.passRet ?_ | refine WE.outRet ?_ | refine WL.wanted rfl rfl rfl ?_ | refine WL.unwanted rfl rfl rfl rfl ?_ | refine WL.unwantedU rfl rfl rfl rfl ?_ | refine WL.unwanted0 rfl rfl rfl ?_ | (apply WL.store; exact rfl; exact rfl; (first | assumption | exact rfl); exact SzC.eq; (first | assumption | exact rfl); (focus ((repeat (first | apply UpdC.head | apply UpdC.tail | exact SetMany.nil | apply SetMany.cons | apply SetMany.succ)); done)))
  try refine WL.wanted rfl rfl rfl ?_
  apply WL.callA ([])
  · exact rfl
  · exact rfl
  · exact fun w => Try.call18 _ w
  · (focus ((repeat (first | exact TakeL.nil | apply TakeL.cons | exact Take.head | apply Take.tail)); done))
  · exact fun w1 S1 hS1 hs1 ho1 => rcommand_spec c w1 S1 hS1 h1 h2 h3 h4
  rintro _ _ ⟨rfl, rfl⟩
  first | refine WL.app4 ?_ | refine WL.app3 ?_ | refine WL.app2 ?_ | refine WL.app1 ?_ | refine WL.app0 ?_ | skip
  generalize (cmdF c).1 = k1
  generalize (cmdF c).2 = k2
  repeat first
    | (apply WL.q; exact rfl; exact rfl; exact rfl; (first | (apply EvW.move; exact rfl) | (apply EvW.assign; exact rfl) | (apply EvW.ldSeen; exact rfl; exact ScalC.eq; assumption; (first | exact rfl | assumption)) | (apply EvW.ldFld; exact rfl; exact ScalC.eq; assumption; exact fun _ => rfl; omega; exact rfl; exact inferInstance) | (apply EvW.extract; exact rfl; exact rfl) | (apply EvW.cmpT; exact rfl; exact rfl; exact rfl; omega) | (apply EvW.cmpF; exact rfl; exact rfl; exact rfl; omega) | (apply EvW.cmp; exact rfl; exact rfl; exact rfl) | (apply EvW.pickT; exact rfl; exact rfl) | (apply EvW.pickF; exact rfl; exact rfl) | (apply EvW.notT; exact rfl) | (apply EvW.notF; exact rfl) | (apply EvW.notP; exact rfl) | (apply EvW.sneS; exact rfl; exact rfl) | (apply EvW.sne; exact rfl; exact rfl) | (apply EvW.loadAgg; exact rfl; exact AggC.eq; exact SzC.eq; (focus ((repeat (first | exact Take.head | apply Take.tail)); done)); (focus ((repeat (first | exact SubL.nil | apply SubL.cons | apply SubL.succ)); done)))))
    | refine WC.seq ?_ | refine WC.region ?_ | refine WL.nil ?_ | refine WE.next ?_ | refine WC.skip ?_ | refine WC.exit ?_ | refine WE.pass ?_ | refine WE.hit ?_ | refine WE.miss rfl ?_ | refine WE.out ?_ | refine WC.condT rfl ?_ | refine WC.condF rfl ?_ | refine WC.ret ?_ | refine WE.passRet ?_ | refine WE.outRet ?_ | refine WL.wanted rfl rfl rfl ?_ | refine WL.unwanted rfl rfl rfl rfl ?_ | refine WL.unwantedU rfl rfl rfl rfl ?_ | refine WL.unwanted0 rfl rfl rfl ?_ | (apply WL.store; exact rfl; exact rfl; (first | assumption | exact rfl); exact SzC.eq; (first | assumption | exact rfl); (focus ((repeat (first | apply UpdC.head | apply UpdC.tail | exact SetMany.nil | apply SetMany.cons | apply SetMany.succ)); done)))
  try refine WL.wanted rfl rfl rfl ?_
  apply WL.callA ([])
  · exact rfl
  · exact rfl
  · exact fun w => Try.call19 _ w
  · (focus ((repeat (first | exact TakeL.nil | apply TakeL.cons | exact Take.head | apply Take.tail)); done))
  · exact fun w1 S1 hS1 hs1 ho1 => reply_spec r w1 S1 hS1
  rintro _ _ ⟨rfl, rfl⟩
  first | refine WL.app4 ?_ | refine WL.app3 ?_ | refine WL.app2 ?_ | refine WL.app1 ?_ | refine WL.app0 ?_ | skip
  repeat first
    | (apply WL.q; exact rfl; exact rfl; exact rfl; (first | (apply EvW.move; exact rfl) | (apply EvW.assign; exact rfl) | (apply EvW.ldSeen; exact rfl; exact ScalC.eq; assumption; (first | exact rfl | assumption)) | (apply EvW.ldFld; exact rfl; exact ScalC.eq; assumption; exact fun _ => rfl; omega; exact rfl; exact inferInstance) | (apply EvW.extract; exact rfl; exact rfl) | (apply EvW.cmpT; exact rfl; exact rfl; exact rfl; omega) | (apply EvW.cmpF; exact rfl; exact rfl; exact rfl; omega) | (apply EvW.cmp; exact rfl; exact rfl; exact rfl) | (apply EvW.pickT; exact rfl; exact rfl) | (apply EvW.pickF; exact rfl; exact rfl) | (apply EvW.notT; exact rfl) | (apply EvW.notF; exact rfl) | (apply EvW.notP; exact rfl) | (apply EvW.sneS; exact rfl; exact rfl) | (apply EvW.sne; exact rfl; exact rfl) | (apply EvW.loadAgg; exact rfl; exact AggC.eq; exact SzC.eq; (focus ((repeat (first | exact Take.head | apply Take.tail)); done)); (focus ((repeat (first | exact SubL.nil | apply SubL.cons | apply SubL.succ)); done)))))
    | refine WC.seq ?_ | refine WC.region ?_ | refine WL.nil ?_ | refine WE.next ?_ | refine WC.skip ?_ | refine WC.exit ?_ | refine WE.pass ?_ | refine WE.hit ?_ | refine WE.miss rfl ?_ | refine WE.out ?_ | refine WC.condT rfl ?_ | refine WC.condF rfl ?_ | refine WC.ret ?_ | refine WE.passRet ?_ | refine WE.outRet ?_ | refine WL.wanted rfl rfl rfl ?_ | refine WL.unwanted rfl rfl rfl rfl ?_ | refine WL.unwantedU rfl rfl rfl rfl ?_ | refine WL.unwanted0 rfl rfl rfl ?_ | (apply WL.store; exact rfl; exact rfl; (first | assumption | exact rfl); exact SzC.eq; (first | assumption | exact rfl); (focus ((repeat (first | apply UpdC.head | apply UpdC.tail | exact SetMany.nil | apply SetMany.cons | apply SetMany.succ)); done)))
  try refine WL.wanted rfl rfl rfl ?_
  apply WL.callA ([])
  · exact rfl
  · exact rfl
  · exact fun w => Try.call20 _ w
  · (focus ((repeat (first | exact TakeL.nil | apply TakeL.cons | exact Take.head | apply Take.tail)); done))
  · exact fun w1 S1 hS1 hs1 ho1 => rreply_spec r w1 S1 hS1 h5 h6
  rintro _ _ ⟨rfl, rfl⟩
  first | refine WL.app4 ?_ | refine WL.app3 ?_ | refine WL.app2 ?_ | refine WL.app1 ?_ | refine WL.app0 ?_ | skip
  generalize (repF r).1 = k3
  generalize (repF r).2 = k4
  repeat first
    | (apply WL.q; exact rfl; exact rfl; exact rfl; (first | (apply EvW.move; exact rfl) | (apply EvW.assign; exact rfl) | (apply EvW.ldSeen; exact rfl; exact ScalC.eq; assumption; (first | exact rfl | assumption)) | (apply EvW.ldFld; exact rfl; exact ScalC.eq; assumption; exact fun _ => rfl; omega; exact rfl; exact inferInstance) | (apply EvW.extract; exact rfl; exact rfl) | (apply EvW.cmpT; exact rfl; exact rfl; exact rfl; omega) | (apply EvW.cmpF; exact rfl; exact rfl; exact rfl; omega) | (apply EvW.cmp; exact rfl; exact rfl; exact rfl) | (apply EvW.pickT; exact rfl; exact rfl) | (apply EvW.pickF; exact rfl; exact rfl) | (apply EvW.notT; exact rfl) | (apply EvW.notF; exact rfl) | (apply EvW.notP; exact rfl) | (apply EvW.sneS; exact rfl; exact rfl) | (apply EvW.sne; exact rfl; exact rfl) | (apply EvW.loadAgg; exact rfl; exact AggC.eq; exact SzC.eq; (focus ((repeat (first | exact Take.head | apply Take.tail)); done)); (focus ((repeat (first | exact SubL.nil | apply SubL.cons | apply SubL.succ)); done)))))
    | refine WC.seq ?_ | refine WC.region ?_ | refine WL.nil ?_ | refine WE.next ?_ | refine WC.skip ?_ | refine WC.exit ?_ | refine WE.pass ?_ | refine WE.hit ?_ | refine WE.miss rfl ?_ | refine WE.out ?_ | refine WC.condT rfl ?_ | refine WC.condF rfl ?_ | refine WC.ret ?_ | refine WE.passRet ?_ | refine WE.outRet ?_ | refine WL.wanted rfl rfl rfl ?_ | refine WL.unwanted rfl rfl rfl rfl ?_ | refine WL.unwantedU rfl rfl rfl rfl ?_ | refine WL.unwanted0 rfl rfl rfl ?_ | (apply WL.store; exact rfl; exact rfl; (first | assumption | exact rfl); exact SzC.eq; (first | assumption | exact rfl); (focus ((repeat (first | apply UpdC.head | apply UpdC.tail | exact SetMany.nil | apply SetMany.cons | apply SetMany.succ)); done)))
  try refine WL.wanted rfl rfl rfl ?_
  apply WL.callA ([])
  · exact rfl
  · exact rfl
  · exact fun w => Try.call21 _ w
  · (focus ((repeat (first | exact TakeL.nil | apply TakeL.cons | exact Take.head | apply Take.tail)); done))
  · exact fun w1 S1 hS1 hs1 ho1 => readCommand_spec l p w1 S1 hS1 hl hp
  rintro _ _ ⟨rfl, rfl⟩
  first | refine WL.app4 ?_ | refine WL.app3 ?_ | refine WL.app2 ?_ | refine WL.app1 ?_ | refine WL.app0 ?_ | skip
  repeat first
    | (apply WL.q; exact rfl; exact rfl; exact rfl; (first | (apply EvW.move; exact rfl) | (apply EvW.assign; exact rfl) | (apply EvW.ldSeen; exact rfl; exact ScalC.eq; assumption; (first | exact rfl | assumption)) | (apply EvW.ldFld; exact rfl; exact ScalC.eq; assumption; exact fun _ => rfl; omega; exact rfl; exact inferInstance) | (apply EvW.extract; exact rfl; exact rfl) | (apply EvW.cmpT; exact rfl; exact rfl; exact rfl; omega) | (apply EvW.cmpF; exact rfl; exact rfl; exact rfl; omega) | (apply EvW.cmp; exact rfl; exact rfl; exact rfl) | (apply EvW.pickT; exact rfl; exact rfl) | (apply EvW.pickF; exact rfl; exact rfl) | (apply EvW.notT; exact rfl) | (apply EvW.notF; exact rfl) | (apply EvW.notP; exact rfl) | (apply EvW.sneS; exact rfl; exact rfl) | (apply EvW.sne; exact rfl; exact rfl) | (apply EvW.loadAgg; exact rfl; exact AggC.eq; exact SzC.eq; (focus ((repeat (first | exact Take.head | apply Take.tail)); done)); (focus ((repeat (first | exact SubL.nil | apply SubL.cons | apply SubL.succ)); done)))))
    | refine WC.seq ?_ | refine WC.region ?_ | refine WL.nil ?_ | refine WE.next ?_ | refine WC.skip ?_ | refine WC.exit ?_ | refine WE.pass ?_ | refine WE.hit ?_ | refine WE.miss rfl ?_ | refine WE.out ?_ | refine WC.condT rfl ?_ | refine WC.condF rfl ?_ | refine WC.ret ?_ | refine WE.passRet ?_ | refine WE.outRet ?_ | refine WL.wanted rfl rfl rfl ?_ | refine WL.unwanted rfl rfl rfl rfl ?_ | refine WL.unwantedU rfl rfl rfl rfl ?_ | refine WL.unwanted0 rfl rfl rfl ?_ | (apply WL.store; exact rfl; exact rfl; (first | assumption | exact rfl); exact SzC.eq; (first | assumption | exact rfl); (focus ((repeat (first | apply UpdC.head | apply UpdC.tail | exact SetMany.nil | apply SetMany.cons | apply SetMany.succ)); done)))
  try refine WL.wanted rfl rfl rfl ?_
  (apply WL.alloc; exact rfl; exact ZvC.eq; exact rfl; intro x1)
  repeat first
    | (apply WL.q; exact rfl; exact rfl; exact rfl; (first | (apply EvW.move; exact rfl) | (apply EvW.assign; exact rfl) | (apply EvW.ldSeen; exact rfl; exact ScalC.eq; assumption; (first | exact rfl | assumption)) | (apply EvW.ldFld; exact rfl; exact ScalC.eq; assumption; exact fun _ => rfl; omega; exact rfl; exact inferInstance) | (apply EvW.extract; exact rfl; exact rfl) | (apply EvW.cmpT; exact rfl; exact rfl; exact rfl; omega) | (apply EvW.cmpF; exact rfl; exact rfl; exact rfl; omega) | (apply EvW.cmp; exact rfl; exact rfl; exact rfl) | (apply EvW.pickT; exact rfl; exact rfl) | (apply EvW.pickF; exact rfl; exact rfl) | (apply EvW.notT; exact rfl) | (apply EvW.notF; exact rfl) | (apply EvW.notP; exact rfl) | (apply EvW.sneS; exact rfl; exact rfl) | (apply EvW.sne; exact rfl; exact rfl) | (apply EvW.loadAgg; exact rfl; exact AggC.eq; exact SzC.eq; (focus ((repeat (first | exact Take.head | apply Take.tail)); done)); (focus ((repeat (first | exact SubL.nil | apply SubL.cons | apply SubL.succ)); done)))))
    | refine WC.seq ?_ | refine WC.region ?_ | refine WL.nil ?_ | refine WE.next ?_ | refine WC.skip ?_ | refine WC.exit ?_ | refine WE.pass ?_ | refine WE.hit ?_ | refine WE.miss rfl ?_ | refine WE.out ?_ | refine WC.condT rfl ?_ | refine WC.condF rfl ?_ | refine WC.ret ?_ | refine WE.passRet ?_ | refine WE.outRet ?_ | refine WL.wanted rfl rfl rfl ?_ | refine WL.unwanted rfl rfl rfl rfl ?_ | refine WL.unwantedU rfl rfl rfl rfl ?_ | refine WL.unwanted0 rfl rfl rfl ?_ | (apply WL.store; exact rfl; exact rfl; (first | assumption | exact rfl); exact SzC.eq; (first | assumption | exact rfl); (focus ((repeat (first | apply UpdC.head | apply UpdC.tail | exact SetMany.nil | apply SetMany.cons | apply SetMany.succ)); done)))
  try refine WL.wanted rfl rfl rfl ?_
  apply WL.callA ([])
  · exact rfl
  · exact rfl
  · exact fun w => Try.call22 _ w
  · (focus ((repeat (first | exact TakeL.nil | apply TakeL.cons | exact Take.head | apply Take.tail)); done))
  · exact fun w1 S1 hS1 hs1 ho1 => rreadCommand_spec l p w1 S1 hS1 hl hp
  rintro _ _ ⟨rfl, rfl⟩
  first | refine WL.app4 ?_ | refine WL.app3 ?_ | refine WL.app2 ?_ | refine WL.app1 ?_ | refine WL.app0 ?_ | skip
  repeat first
    | (apply WL.q; exact rfl; exact rfl; exact rfl; (first | (apply EvW.move; exact rfl) | (apply EvW.assign; exact rfl) | (apply EvW.ldSeen; exact rfl; exact ScalC.eq; assumption; (first | exact rfl | assumption)) | (apply EvW.ldFld; exact rfl; exact ScalC.eq; assumption; exact fun _ => rfl; omega; exact rfl; exact inferInstance) | (apply EvW.extract; exact rfl; exact rfl) | (apply EvW.cmpT; exact rfl; exact rfl; exact rfl; omega) | (apply EvW.cmpF; exact rfl; exact rfl; exact rfl; omega) | (apply EvW.cmp; exact rfl; exact rfl; exact rfl) | (apply EvW.pickT; exact rfl; exact rfl) | (apply EvW.pickF; exact rfl; exact rfl) | (apply EvW.notT; exact rfl) | (apply EvW.notF; exact rfl) | (apply EvW.notP; exact rfl) | (apply EvW.sneS; exact rfl; exact rfl) | (apply EvW.sne; exact rfl; exact rfl) | (apply EvW.loadAgg; exact rfl; exact AggC.eq; exact SzC.eq; (focus ((repeat (first | exact Take.head | apply Take.tail)); done)); (focus ((repeat (first | exact SubL.nil | apply SubL.cons | apply SubL.succ)); done)))))
    | refine WC.seq ?_ | refine WC.region ?_ | refine WL.nil ?_ | refine WE.next ?_ | refine WC.skip ?_ | refine WC.exit ?_ | refine WE.pass ?_ | refine WE.hit ?_ | refine WE.miss rfl ?_ | refine WE.out ?_ | refine WC.condT rfl ?_ | refine WC.condF rfl ?_ | refine WC.ret ?_ | refine WE.passRet ?_ | refine WE.outRet ?_ | refine WL.wanted rfl rfl rfl ?_ | refine WL.unwanted rfl rfl rfl rfl ?_ | refine WL.unwantedU rfl rfl rfl rfl ?_ | refine WL.unwanted0 rfl rfl rfl ?_ | (apply WL.store; exact rfl; exact rfl; (first | assumption | exact rfl); exact SzC.eq; (first | assumption | exact rfl); (focus ((repeat (first | apply UpdC.head | apply UpdC.tail | exact SetMany.nil | apply SetMany.cons | apply SetMany.succ)); done)))
  try refine WL.wanted rfl rfl rfl ?_
  (apply WL.alloc; exact rfl; exact ZvC.eq; exact rfl; intro x2)
  repeat first
    | (apply WL.q; exact rfl; exact rfl; exact rfl; (first | (apply EvW.move; exact rfl) | (apply EvW.assign; exact rfl) | (apply EvW.ldSeen; exact rfl; exact ScalC.eq; assumption; (first | exact rfl | assumption)) | (apply EvW.ldFld; exact rfl; exact ScalC.eq; assumption; exact fun _ => rfl; omega; exact rfl; exact inferInstance) | (apply EvW.extract; exact rfl; exact rfl) | (apply EvW.cmpT; exact rfl; exact rfl; exact rfl; omega) | (apply EvW.cmpF; exact rfl; exact rfl; exact rfl; omega) | (apply EvW.cmp; exact rfl; exact rfl; exact rfl) | (apply EvW.pickT; exact rfl; exact rfl) | (apply EvW.pickF; exact rfl; exact rfl) | (apply EvW.notT; exact rfl) | (apply EvW.notF; exact rfl) | (apply EvW.notP; exact rfl) | (apply EvW.sneS; exact rfl; exact rfl) | (apply EvW.sne; exact rfl; exact rfl) | (apply EvW.loadAgg; exact rfl; exact AggC.eq; exact SzC.eq; (focus ((repeat (first | exact Take.head | apply Take.tail)); done)); (focus ((repeat (first | exact SubL.nil | apply SubL.cons | apply SubL.succ)); done)))))
    | refine WC.seq ?_ | refine WC.region ?_ | refine WL.nil ?_ | refine WE.next ?_ | refine WC.skip ?_ | refine WC.exit ?_ | refine WE.pass ?_ | refine WE.hit ?_ | refine WE.miss rfl ?_ | refine WE.out ?_ | refine WC.condT rfl ?_ | refine WC.condF rfl ?_ | refine WC.ret ?_ | refine WE.passRet ?_ | refine WE.outRet ?_ | refine WL.wanted rfl rfl rfl ?_ | refine WL.unwanted rfl rfl rfl rfl ?_ | refine WL.unwantedU rfl rfl rfl rfl ?_ | refine WL.unwanted0 rfl rfl rfl ?_ | (apply WL.store; exact rfl; exact rfl; (first | assumption | exact rfl); exact SzC.eq; (first | assumption | exact rfl); (focus ((repeat (first | apply UpdC.head | apply UpdC.tail | exact SetMany.nil | apply SetMany.cons | apply SetMany.succ)); done)))
  try refine WL.wanted rfl rfl rfl ?_
  apply WL.callA ([])
  · exact rfl
  · exact rfl
  · exact fun w => Try.call23 _ w
  · (focus ((repeat (first | exact TakeL.nil | apply TakeL.cons | exact Take.head | apply Take.tail)); done))
  · exact fun w1 S1 hS1 hs1 ho1 => readReply_spec l y w1 S1 hS1 hl hy
  rintro _ _ ⟨rfl, rfl⟩
  first | refine WL.app4 ?_ | refine WL.app3 ?_ | refine WL.app2 ?_ | refine WL.app1 ?_ | refine WL.app0 ?_ | skip
  repeat first
    | (apply WL.q; exact rfl; exact rfl; exact rfl; (first | (apply EvW.move; exact rfl) | (apply EvW.assign; exact rfl) | (apply EvW.ldSeen; exact rfl; exact ScalC.eq; assumption; (first | exact rfl | assumption)) | (apply EvW.ldFld; exact rfl; exact ScalC.eq; assumption; exact fun _ => rfl; omega; exact rfl; exact inferInstance) | (apply EvW.extract; exact rfl; exact rfl) | (apply EvW.cmpT; exact rfl; exact rfl; exact rfl; omega) | (apply EvW.cmpF; exact rfl; exact rfl; exact rfl; omega) | (apply EvW.cmp; exact rfl; exact rfl; exact rfl) | (apply EvW.pickT; exact rfl; exact rfl) | (apply EvW.pickF; exact rfl; exact rfl) | (apply EvW.notT; exact rfl) | (apply EvW.notF; exact rfl) | (apply EvW.notP; exact rfl) | (apply EvW.sneS; exact rfl; exact rfl) | (apply EvW.sne; exact rfl; exact rfl) | (apply EvW.loadAgg; exact rfl; exact AggC.eq; exact SzC.eq; (focus ((repeat (first | exact Take.head | apply Take.tail)); done)); (focus ((repeat (first | exact SubL.nil | apply SubL.cons | apply SubL.succ)); done)))))
    | refine WC.seq ?_ | refine WC.region ?_ | refine WL.nil ?_ | refine WE.next ?_ | refine WC.skip ?_ | refine WC.exit ?_ | refine WE.pass ?_ | refine WE.hit ?_ | refine WE.miss rfl ?_ | refine WE.out ?_ | refine WC.condT rfl ?_ | refine WC.condF rfl ?_ | refine WC.ret ?_ | refine WE.passRet ?_ | refine WE.outRet ?_ | refine WL.wanted rfl rfl rfl ?_ | refine WL.unwanted rfl rfl rfl rfl ?_ | refine WL.unwantedU rfl rfl rfl rfl ?_ | refine WL.unwanted0 rfl rfl rfl ?_ | (apply WL.store; exact rfl; exact rfl; (first | assumption | exact rfl); exact SzC.eq; (first | assumption | exact rfl); (focus ((repeat (first | apply UpdC.head | apply UpdC.tail | exact SetMany.nil | apply SetMany.cons | apply SetMany.succ)); done)))
  try refine WL.wanted rfl rfl rfl ?_
  (apply WL.alloc; exact rfl; exact ZvC.eq; exact rfl; intro x3)
  repeat first
    | (apply WL.q; exact rfl; exact rfl; exact rfl; (first | (apply EvW.move; exact rfl) | (apply EvW.assign; exact rfl) | (apply EvW.ldSeen; exact rfl; exact ScalC.eq; assumption; (first | exact rfl | assumption)) | (apply EvW.ldFld; exact rfl; exact ScalC.eq; assumption; exact fun _ => rfl; omega; exact rfl; exact inferInstance) | (apply EvW.extract; exact rfl; exact rfl) | (apply EvW.cmpT; exact rfl; exact rfl; exact rfl; omega) | (apply EvW.cmpF; exact rfl; exact rfl; exact rfl; omega) | (apply EvW.cmp; exact rfl; exact rfl; exact rfl) | (apply EvW.pickT; exact rfl; exact rfl) | (apply EvW.pickF; exact rfl; exact rfl) | (apply EvW.notT; exact rfl) | (apply EvW.notF; exact rfl) | (apply EvW.notP; exact rfl) | (apply EvW.sneS; exact rfl; exact rfl) | (apply EvW.sne; exact rfl; exact rfl) | (apply EvW.loadAgg; exact rfl; exact AggC.eq; exact SzC.eq; (focus ((repeat (first | exact Take.head | apply Take.tail)); done)); (focus ((repeat (first | exact SubL.nil | apply SubL.cons | apply SubL.succ)); done)))))
    | refine WC.seq ?_ | refine WC.region ?_ | refine WL.nil ?_ | refine WE.next ?_ | refine WC.skip ?_ | refine WC.exit ?_ | refine WE.pass ?_ | refine WE.hit ?_ | refine WE.miss rfl ?_ | refine WE.out ?_ | refine WC.condT rfl ?_ | refine WC.condF rfl ?_ | refine WC.ret ?_ | refine WE.passRet ?_ | refine WE.outRet ?_ | refine WL.wanted rfl rfl rfl ?_ | refine WL.unwanted rfl rfl rfl rfl ?_ | refine WL.unwantedU rfl rfl rfl rfl ?_ | refine WL.unwanted0 rfl rfl rfl ?_ | (apply WL.store; exact rfl; exact rfl; (first | assumption | exact rfl); exact SzC.eq; (first | assumption | exact rfl); (focus ((repeat (first | apply UpdC.head | apply UpdC.tail | exact SetMany.nil | apply SetMany.cons | apply SetMany.succ)); done)))
  try refine WL.wanted rfl rfl rfl ?_
  apply WL.callA ([])
  · exact rfl
  · exact rfl
  · exact fun w => Try.call24 _ w
  · (focus ((repeat (first | exact TakeL.nil | apply TakeL.cons | exact Take.head | apply Take.tail)); done))
  · exact fun w1 S1 hS1 hs1 ho1 => rreadReply_spec l y w1 S1 hS1 hl hy
  rintro _ _ ⟨rfl, rfl⟩
  first | refine WL.app4 ?_ | refine WL.app3 ?_ | refine WL.app2 ?_ | refine WL.app1 ?_ | refine WL.app0 ?_ | skip
  repeat first
    | (apply WL.q; exact rfl; exact rfl; exact rfl; (first | (apply EvW.move; exact rfl) | (apply EvW.assign; exact rfl) | (apply EvW.ldSeen; exact rfl; exact ScalC.eq; assumption; (first | exact rfl | assumption)) | (apply EvW.ldFld; exact rfl; exact ScalC.eq; assumption; exact fun _ => rfl; omega; exact rfl; exact inferInstance) | (apply EvW.extract; exact rfl; exact rfl) | (apply EvW.cmpT; exact rfl; exact rfl; exact rfl; omega) | (apply EvW.cmpF; exact rfl; exact rfl; exact rfl; omega) | (apply EvW.cmp; exact rfl; exact rfl; exact rfl) | (apply EvW.pickT; exact rfl; exact rfl) | (apply EvW.pickF; exact rfl; exact rfl) | (apply EvW.notT; exact rfl) | (apply EvW.notF; exact rfl) | (apply EvW.notP; exact rfl) | (apply EvW.sneS; exact rfl; exact rfl) | (apply EvW.sne; exact rfl; exact rfl) | (apply EvW.loadAgg; exact rfl; exact AggC.eq; exact SzC.eq; (focus ((repeat (first | exact Take.head | apply Take.tail)); done)); (focus ((repeat (first | exact SubL.nil | apply SubL.cons | apply SubL.succ)); done)))))
    | refine WC.seq ?_ | refine WC.region ?_ | refine WL.nil ?_ | refine WE.next ?_ | refine WC.skip ?_ | refine WC.exit ?_ | refine WE.pass ?_ | refine WE.hit ?_ | refine WE.miss rfl ?_ | refine WE.out ?_ | refine WC.condT rfl ?_ | refine WC.condF rfl ?_ | refine WC.ret ?_ | refine WE.passRet ?_ | refine WE.outRet ?_ | refine WL.wanted rfl rfl rfl ?_ | refine WL.unwanted rfl rfl rfl rfl ?_ | refine WL.unwantedU rfl rfl rfl rfl ?_ | refine WL.unwanted0 rfl rfl rfl ?_ | (apply WL.store; exact rfl; exact rfl; (first | assumption | exact rfl); exact SzC.eq; (first | assumption | exact rfl); (focus ((repeat (first | apply UpdC.head | apply UpdC.tail | exact SetMany.nil | apply SetMany.cons | apply SetMany.succ)); done)))
  try refine WL.wanted rfl rfl rfl ?_
  (apply WL.alloc; exact rfl; exact ZvC.eq; exact rfl; intro x4)
  repeat first
    | (apply WL.q; exact rfl; exact rfl; exact rfl; (first | (apply EvW.move; exact rfl) | (apply EvW.assign; exact rfl) | (apply EvW.ldSeen; exact rfl; exact ScalC.eq; assumption; (first | exact rfl | assumption)) | (apply EvW.ldFld; exact rfl; exact ScalC.eq; assumption; exact fun _ => rfl; omega; exact rfl; exact inferInstance) | (apply EvW.extract; exact rfl; exact rfl) | (apply EvW.cmpT; exact rfl; exact rfl; exact rfl; omega) | (apply EvW.cmpF; exact rfl; exact rfl; exact rfl; omega) | (apply EvW.cmp; exact rfl; exact rfl; exact rfl) | (apply EvW.pickT; exact rfl; exact rfl) | (apply EvW.pickF; exact rfl; exact rfl) | (apply EvW.notT; exact rfl) | (apply EvW.notF; exact rfl) | (apply EvW.notP; exact rfl) | (apply EvW.sneS; exact rfl; exact rfl) | (apply EvW.sne; exact rfl; exact rfl) | (apply EvW.loadAgg; exact rfl; exact AggC.eq; exact SzC.eq; (focus ((repeat (first | exact Take.head | apply Take.tail)); done)); (focus ((repeat (first | exact SubL.nil | apply SubL.cons | apply SubL.succ)); done)))))
    | refine WC.seq ?_ | refine WC.region ?_ | refine WL.nil ?_ | refine WE.next ?_ | refine WC.skip ?_ | refine WC.exit ?_ | refine WE.pass ?_ | refine WE.hit ?_ | refine WE.miss rfl ?_ | refine WE.out ?_ | refine WC.condT rfl ?_ | refine WC.condF rfl ?_ | refine WC.ret ?_ | refine WE.passRet ?_ | refine WE.outRet ?_ | refine WL.wanted rfl rfl rfl ?_ | refine WL.unwanted rfl rfl rfl rfl ?_ | refine WL.unwantedU rfl rfl rfl rfl ?_ | refine WL.unwanted0 rfl rfl rfl ?_ | (apply WL.store; exact rfl; exact rfl; (first | assumption | exact rfl); exact SzC.eq; (first | assumption | exact rfl); (focus ((repeat (first | apply UpdC.head | apply UpdC.tail | exact SetMany.nil | apply SetMany.cons | apply SetMany.succ)); done)))
  try refine WL.wanted rfl rfl rfl ?_
  (apply WL.q; exact rfl; exact rfl; exact rfl; (apply EvW.eqAggS (offs := [0, 1, 2, 3]); exact rfl; exact rfl; kernel_rfl; exact rfl))
  repeat first
    | (apply WL.q; exact rfl; exact rfl; exact rfl; (first | (apply EvW.move; exact rfl) | (apply EvW.assign; exact rfl) | (apply EvW.ldSeen; exact rfl; exact ScalC.eq; assumption; (first | exact rfl | assumption)) | (apply EvW.ldFld; exact rfl; exact ScalC.eq; assumption; exact fun _ => rfl; omega; exact rfl; exact inferInstance) | (apply EvW.extract; exact rfl; exact rfl) | (apply EvW.cmpT; exact rfl; exact rfl; exact rfl; omega) | (apply EvW.cmpF; exact rfl; exact rfl; exact rfl; omega) | (apply EvW.cmp; exact rfl; exact rfl; exact rfl) | (apply EvW.pickT; exact rfl; exact rfl) | (apply EvW.pickF; exact rfl; exact rfl) | (apply EvW.notT; exact rfl) | (apply EvW.notF; exact rfl) | (apply EvW.notP; exact rfl) | (apply EvW.sneS; exact rfl; exact rfl) | (apply EvW.sne; exact rfl; exact rfl) | (apply EvW.loadAgg; exact rfl; exact AggC.eq; exact SzC.eq; (focus ((repeat (first | exact Take.head | apply Take.tail)); done)); (focus ((repeat (first | exact SubL.nil | apply SubL.cons | apply SubL.succ)); done)))))
    | refine WC.seq ?_ | refine WC.region ?_ | refine WL.nil ?_ | refine WE.next ?_ | refine WC.skip ?_ | refine WC.exit ?_ | refine WE.pass ?_ | refine WE.hit ?_ | refine WE.miss rfl ?_ | refine WE.out ?_ | refine WC.condT rfl ?_ | refine WC.condF rfl ?_ | refine WC.ret ?_ | refine WE.passRet ?_ | refine WE.outRet ?_ | refine WL.wanted rfl rfl rfl ?_ | refine WL.unwanted rfl rfl rfl rfl ?_ | refine WL.unwantedU rfl rfl rfl rfl ?_ | refine WL.unwanted0 rfl rfl rfl ?_ | (apply WL.store; exact rfl; exact rfl; (first | assumption | exact rfl); exact SzC.eq; (first | assumption | exact rfl); (focus ((repeat (first | apply UpdC.head | apply UpdC.tail | exact SetMany.nil | apply SetMany.cons | apply SetMany.succ)); done)))
  try refine WL.wanted rfl rfl rfl ?_
  (apply WL.q; exact rfl; exact rfl; exact rfl; (apply EvW.eqAggS (offs := [0, 1]); exact rfl; exact rfl; kernel_rfl; exact rfl))
  repeat first
    | (apply WL.q; exact rfl; exact rfl; exact rfl; (first | (apply EvW.move; exact rfl) | (apply EvW.assign; exact rfl) | (apply EvW.ldSeen; exact rfl; exact ScalC.eq; assumption; (first | exact rfl | assumption)) | (apply EvW.ldFld; exact rfl; exact ScalC.eq; assumption; exact fun _ => rfl; omega; exact rfl; exact inferInstance) | (apply EvW.extract; exact rfl; exact rfl) | (apply EvW.cmpT; exact rfl; exact rfl; exact rfl; omega) | (apply EvW.cmpF; exact rfl; exact rfl; exact rfl; omega) | (apply EvW.cmp; exact rfl; exact rfl; exact rfl) | (apply EvW.pickT; exact rfl; exact rfl) | (apply EvW.pickF; exact rfl; exact rfl) | (apply EvW.notT; exact rfl) | (apply EvW.notF; exact rfl) | (apply EvW.notP; exact rfl) | (apply EvW.sneS; exact rfl; exact rfl) | (apply EvW.sne; exact rfl; exact rfl) | (apply EvW.loadAgg; exact rfl; exact AggC.eq; exact SzC.eq; (focus ((repeat (first | exact Take.head | apply Take.tail)); done)); (focus ((repeat (first | exact SubL.nil | apply SubL.cons | apply SubL.succ)); done)))))
    | refine WC.seq ?_ | refine WC.region ?_ | refine WL.nil ?_ | refine WE.next ?_ | refine WC.skip ?_ | refine WC.exit ?_ | refine WE.pass ?_ | refine WE.hit ?_ | refine WE.miss rfl ?_ | refine WE.out ?_ | refine WC.condT rfl ?_ | refine WC.condF rfl ?_ | refine WC.ret ?_ | refine WE.passRet ?_ | refine WE.outRet ?_ | refine WL.wanted rfl rfl rfl ?_ | refine WL.unwanted rfl rfl rfl rfl ?_ | refine WL.unwantedU rfl rfl rfl rfl ?_ | refine WL.unwanted0 rfl rfl rfl ?_ | (apply WL.store; exact rfl; exact rfl; (first | assumption | exact rfl); exact SzC.eq; (first | assumption | exact rfl); (focus ((repeat (first | apply UpdC.head | apply UpdC.tail | exact SetMany.nil | apply SetMany.cons | apply SetMany.succ)); done)))
  refine WE.bare ?_
  refine WE.ret1 rfl rfl ?_
  rfl
end Go.Proofs.Ytehgfhjocfaciaa
