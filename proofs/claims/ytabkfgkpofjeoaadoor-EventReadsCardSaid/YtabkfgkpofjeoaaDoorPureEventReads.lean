/- EventReads over plain values: Unpack of any bytes is the document's. -/
import Derived.Test.YtabkfgkpofjeoaaDoorUnpack0
set_option linter.unusedVariables false
namespace Go.Proofs.YtabkfgkpofjeoaaDoor.PureEventReads
open Go Go.Sy Go.Proofs.YtabkfgkpofjeoaaDoor.F Go.Proofs.YtabkfgkpofjeoaaDoor.Base Go.Proofs.YtabkfgkpofjeoaaDoor.Num0 Go.Proofs.YtabkfgkpofjeoaaDoor.Mac0 Go.Proofs.YtabkfgkpofjeoaaDoor.Pack0 Go.Proofs.YtabkfgkpofjeoaaDoor.Unpack0
theorem aw : law28_awake_C () = some (true, ()) := by kernel_rfl
theorem sealed_eq (l : List Int) (h : l.length ≤ 2000) : law28_sealed_C (l, ()) = some (l ++ word (mac 0 l), ()) := by
  unfold law28_sealed_C law28_sealed_F
  simp only
  rw [ref_Seal_eq 0 l (by omega)]
  rfl
theorem true_ (l : List Int) (k : Int) (hl : Wf (.slr (.int .u8)) l) (hk : Wf (.int .u64) k) : law28_EventReads_C (l, k, ()) = some (true, ()) := by
  unfold law28_EventReads_C law28_EventReads_F
  rw [aw]
  simp only [Option.bind_some, Bool.not_true, cond_false]
  by_cases h : (l.length : Int) > 2000
  · rw [decide_eq_true h]; rfl
  rw [decide_eq_false h]
  simp only [cond_false]
  have hs : (l ++ word (mac 0 l)).length < 100000 := by rw [List.length_append]; show l.length + 8 < 100000; omega
  rw [event_Unpack_eq k l (by omega), ref28_Unpack_eq k l (by omega), sealed_eq l (by omega)]
  simp only [Option.bind_some]
  rw [event_Unpack_eq 0 _ hs, ref28_Unpack_eq 0 _ hs]
  simp only [Option.bind_some, beq_self_eq_true, cond_true]
  have h1 := sameBatch (unpack k l).1 (by have := unpack_len k l; omega)
  have h2 := sameBatch (unpack 0 (l ++ word (mac 0 l))).1 (by have := unpack_len 0 (l ++ word (mac 0 l)); omega)
  generalize (unpack k l).1 = b1 at h1 ⊢
  generalize (unpack 0 (l ++ word (mac 0 l))).1 = b2 at h2 ⊢
  obtain ⟨_, _, _, _⟩ := b1
  obtain ⟨_, _, _, _⟩ := b2
  simp only at h1 h2 ⊢
  rw [h1]
  simp only [Option.bind_some, cond_true]
  rw [h2]
  rfl
end Go.Proofs.YtabkfgkpofjeoaaDoor.PureEventReads
