/- EventBatches over plain values: Pack and CheckBatch are the document's, for every key and every batch. -/
import Derived.Test.YtabkfgkpofjeoaaDoorPack0
import Derived.KernelRfl
set_option linter.unusedVariables false
namespace Go.Proofs.YtabkfgkpofjeoaaDoor.PureEventBatches
open Go Go.Sy Go.Proofs.YtabkfgkpofjeoaaDoor.F Go.Proofs.YtabkfgkpofjeoaaDoor.Base Go.Proofs.YtabkfgkpofjeoaaDoor.Batch0 Go.Proofs.YtabkfgkpofjeoaaDoor.Pack0
theorem aw : law28_awake_C () = some (true, ()) := by kernel_rfl
theorem true_ (b : Bt) (k : Int) (h : Wf BtT b) (hk : Wf (.int .u64) k) : law28_EventBatches_C (b, k, ()) = some (true, ()) := by
  unfold law28_EventBatches_C law28_EventBatches_F
  rw [aw]
  simp only [Option.bind_some, Bool.not_true, cond_false]
  cases decide ((b.2.2.1.length : Int) > 60)
  · have hs := SizesB.of h
    have hn := NumsB.of h
    simp only [cond_false, event_Pack_eq k b hs hn, ref28_Pack_eq k b hs hn, event_CheckBatch_eq b hs, ref28_CheckBatch_eq b hs, Option.bind_some, beq_self_eq_true, cond_true, seq_refl]
  · rfl
end Go.Proofs.YtabkfgkpofjeoaaDoor.PureEventBatches
