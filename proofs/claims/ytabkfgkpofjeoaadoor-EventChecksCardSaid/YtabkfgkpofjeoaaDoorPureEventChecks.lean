/- EventChecks over plain values: Check returns the specified error of every event. -/
import Derived.Test.YtabkfgkpofjeoaaDoorCheck0
set_option linter.unusedVariables false
namespace Go.Proofs.YtabkfgkpofjeoaaDoor.PureEventChecks
open Go Go.Sy Go.Proofs.YtabkfgkpofjeoaaDoor.F Go.Proofs.YtabkfgkpofjeoaaDoor.Base Go.Proofs.YtabkfgkpofjeoaaDoor.Check0
theorem aw : law28_awake_C () = some (true, ()) := by kernel_rfl
theorem true_ (e : Ev) (h : Wf EvT e) : law28_EventChecks_C (e, ()) = some (true, ()) := by
  unfold law28_EventChecks_C law28_EventChecks_F
  rw [aw]
  simp only [Option.bind_some, Bool.not_true, cond_false, event_Check_eq e (Sizes.of h), ref28_Check_eq e (Sizes.of h), beq_self_eq_true]
end Go.Proofs.YtabkfgkpofjeoaaDoor.PureEventChecks
