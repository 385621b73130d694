/- EventSpoilt over plain values: Check of a changed event is the document's. -/
import Derived.Test.YtabkfgkpofjeoaaDoorChange0
set_option linter.unusedVariables false
namespace Go.Proofs.YtabkfgkpofjeoaaDoor.PureEventSpoilt
open Go Go.Sy Go.Proofs.YtabkfgkpofjeoaaDoor.F Go.Proofs.YtabkfgkpofjeoaaDoor.Base Go.Proofs.YtabkfgkpofjeoaaDoor.Key0 Go.Proofs.YtabkfgkpofjeoaaDoor.Check0 Go.Proofs.YtabkfgkpofjeoaaDoor.Batch0 Go.Proofs.YtabkfgkpofjeoaaDoor.Pack0 Go.Proofs.YtabkfgkpofjeoaaDoor.Data0 Go.Proofs.YtabkfgkpofjeoaaDoor.Change0
theorem aw : law28_awake_C () = some (true, ()) := by kernel_rfl
theorem true_ (l : List Int) (n1 n2 n3 n4 n5 : Int) (s : ByteArray) (hl : Wf (.slr (.int .u8)) l) (h1 : Wf (.int .u8) n1) (h2 : Wf (.int .u8) n2) (h3 : Wf (.int .u8) n3) (h4 : Wf (.int .u8) n4) (h5 : Wf (.int .i64) n5) (hs : Wf .str s) : law28_EventSpoilt_C (l, n1, n2, n3, n4, n5, s, ()) = some (true, ()) := by
  apply Ret.true_
  unfold law28_EventSpoilt_C law28_EventSpoilt_F
  rw [aw, Option.bind_some]
  simp only [Bool.not_true, cond_false]
  have h1 := u8_of h1
  have h4 := u8_of h4
  have h5 := r64_of h5
  have hs : s.size ≤ maxLen := hs
  refine Ret.bind (events_ok (okS_of hl)) ?_
  rintro ⟨evs, _⟩ he
  simp only at he ⊢
  apply Ret.cond
  · intro _; exact Ret.some rfl
  · intro hc
    have hne : (evs.length : Int) ≠ 0 := by
      intro h0
      rw [h0] at hc
      cases hc
    refine Ret.guard (by simpa using hne) ?_
    obtain ⟨i, hi, ei⟩ := evs_at h1.1 h1.2 hne
    rw [ei]
    refine Ret.guard (inb_true hi) (Ret.guard (inb_true hi) ?_)
    rw [Int.toNat_natCast, getD_at hi]
    have hg := he.g _ (List.getElem_mem hi)
    generalize evs[i] = e at hg
    refine Ret.bind (limits_ok h4.1 h5) ?_
    rintro ⟨v1, _⟩ hv1
    simp only at hv1 ⊢
    refine Ret.bind (change_ok (good_fine hg) hv1 hs) ?_
    rintro ⟨⟨a1, a2, a3, a4, a5, a6, a7, a8, a9, a10, _⟩, _⟩ hf1
    simp only at hf1 ⊢
    obtain ⟨n4', rfl⟩ := Int.eq_ofNat_of_zero_le h4.1
    have hw : 0 ≤ IntKind.wrap .u8 (Int.tdiv ((n4' : Nat) : Int) 14) := by rw [IntKind.wrap_u8]; omega
    refine Ret.bind (limits_ok hw h5) ?_
    rintro ⟨v2, _⟩ hv2
    simp only at hv2 ⊢
    refine Ret.bind (change_ok hf1 hv2 hs) ?_
    rintro ⟨⟨b1, b2, b3, b4, b5, b6, b7, b8, b9, b10, _⟩, _⟩ hf2
    simp only at hf2 ⊢
    rw [event_Check_eq _ hg.s, Option.bind_some, hg.c]
    simp only
    rw [show ((0 : Int) == 0) = true from rfl]
    simp only [cond_true]
    rw [event_Check_eq _ hf1.s, ref28_Check_eq _ hf1.s]
    simp only [Option.bind_some, beq_self_eq_true, cond_true]
    rw [event_Check_eq _ hf2.s, ref28_Check_eq _ hf2.s]
    simp only [Option.bind_some, beq_self_eq_true, cond_true]
    exact Ret.some rfl
end Go.Proofs.YtabkfgkpofjeoaaDoor.PureEventSpoilt
