-- Written by a program of this session for this claim (functions and their contracts, out of Lean's own print of the program).
import Derived.Test.YthhblhhbobnaiaaPlKinds
namespace Go.Proofs.Ythhblhhbobnaiaa.Pl
open Go.RowKit Go.Proofs.YthhblhhbobnaiaaW.PrintWords Go.Proofs.YthhblhhbobnaiaaW.PrintLast Go.Proofs.YthhblhhbobnaiaaW.PrintMore
attribute [local go_sem] max2_int min2_int max_two min_two max_three min_three max_four min_four   -- for this text's walks alone
set_option linter.unusedVariables false
set_option linter.unusedSimpArgs false

/-! ### plan_Root: function 23 -/
def plan_Root.f (a0 : Int) : Option (Int) := some (wrap64 (a0 + 1))
set_option maxHeartbeats 8000000 in
set_option maxRecDepth 100000 in
theorem plan_Root.calls (a0 : Int) (r : Int) (w : World) (h : plan_Root.f a0 = some r) :
    Calls Try.prog 23 #[.int .i64 a0] w fun e w' => e = .returned (.int .i64 r) ∧ Drawn0 w w' := by
  have H : (some (wrap64 (a0 + 1))) = some r := h
  clear h
  obtain rfl := Option.some.inj H
  go_enter Try.func23, Try.ntmps23
  go_wp2
  go_ret
  exact ⟨by first | rfl | (simp; done) | (simp [*]; done), by repeat (first | exact Drawn0.refl _ | apply Drawn0.step)⟩

end Go.Proofs.Ythhblhhbobnaiaa.Pl
