/- The reader's making, the example, and the first law of pack: as many bytes go in as the limit says. -/
import Derived.Test.YtgcpoehchohleaaPackC
namespace Go.Proofs.Ytgcpoehchohleaa
open Go.RowKit Go.BK

theorem read_spec (l : List UInt8) (w : World) (S : BSet) (hS : (sepL []).sat S w) :
    Tri Try.prog 37 #[str l] w S fun u A => ∃ b, u = ptr b 0 ∧ A = [.blk b #[i64 0, str l] 98] := by
  refine Tri.enter (l := [str l]) Try.func37 rfl Try.ntmps37 rfl [(0, str l)] (subA rfl) hS ?_
  repeat first
    | (apply WL.q; exact rfl; exact rfl; exact rfl; (first | (apply EvW.move; exact rfl) | (apply EvW.assign; exact rfl) | (apply EvW.build; exact PlC.eq; exact ZvC.eq; exact rfl; exact rfl; (focus ((repeat (first | exact Fills.nil | (apply Fills.cons; exact rfl; (first | assumption | exact rfl); exact rfl) | exact SetMany.nil | apply SetMany.cons | apply SetMany.succ)); done)))))
    | refine WC.seq ?_ | refine WC.region ?_ | refine WL.nil ?_ | refine WE.next ?_ | refine WC.skip ?_ | refine WC.exit ?_ | refine WE.pass ?_ | refine WE.hit ?_ | refine WE.miss rfl ?_ | refine WE.out ?_ | refine WC.ret ?_ | refine WE.passRet ?_ | refine WE.outRet ?_ | refine WL.wanted rfl rfl rfl ?_
  try refine WL.wanted rfl rfl rfl ?_
  (apply WL.box; exact rfl; exact rfl; exact rfl; intro b)
  repeat first
    | (apply WL.q; exact rfl; exact rfl; exact rfl; (first | (apply EvW.move; exact rfl) | (apply EvW.assign; exact rfl) | (apply EvW.build; exact PlC.eq; exact ZvC.eq; exact rfl; exact rfl; (focus ((repeat (first | exact Fills.nil | (apply Fills.cons; exact rfl; (first | assumption | exact rfl); exact rfl) | exact SetMany.nil | apply SetMany.cons | apply SetMany.succ)); done)))))
    | refine WC.seq ?_ | refine WC.region ?_ | refine WL.nil ?_ | refine WE.next ?_ | refine WC.skip ?_ | refine WC.exit ?_ | refine WE.pass ?_ | refine WE.hit ?_ | refine WE.miss rfl ?_ | refine WE.out ?_ | refine WC.ret ?_ | refine WE.passRet ?_ | refine WE.outRet ?_ | refine WL.wanted rfl rfl rfl ?_
  refine WE.ret1 rfl rfl ?_
  exact ⟨b, rfl, rfl⟩
theorem init_fits (n : Int) (r : Nat) (h : n ≤ 9223372036854775807) (hr : r ≤ 140737488355328) : (PW.init n).fits r := ⟨by simp only [PW.init]; omega, by simp only [PW.init]; omega, .inr (by simp [PW.init]; exact hr)⟩
end Go.Proofs.Ytgcpoehchohleaa
