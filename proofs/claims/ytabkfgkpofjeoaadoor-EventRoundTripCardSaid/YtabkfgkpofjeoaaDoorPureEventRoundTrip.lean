/- EventRoundTrip over plain values: Unpack of what Pack lays down is the batch. -/
import Derived.Test.YtabkfgkpofjeoaaDoorTrip0
set_option linter.unusedVariables false
namespace Go.Proofs.YtabkfgkpofjeoaaDoor.PureEventRoundTrip
open Go Go.Sy Go.Proofs.YtabkfgkpofjeoaaDoor.F Go.Proofs.YtabkfgkpofjeoaaDoor.Base Go.Proofs.YtabkfgkpofjeoaaDoor.Key0 Go.Proofs.YtabkfgkpofjeoaaDoor.Check0 Go.Proofs.YtabkfgkpofjeoaaDoor.Batch0 Go.Proofs.YtabkfgkpofjeoaaDoor.Mac0 Go.Proofs.YtabkfgkpofjeoaaDoor.Num0 Go.Proofs.YtabkfgkpofjeoaaDoor.Pack0 Go.Proofs.YtabkfgkpofjeoaaDoor.Data0 Go.Proofs.YtabkfgkpofjeoaaDoor.Change0 Go.Proofs.YtabkfgkpofjeoaaDoor.Read1 Go.Proofs.YtabkfgkpofjeoaaDoor.Unpack0 Go.Proofs.YtabkfgkpofjeoaaDoor.Trip0
theorem aw : law28_awake_C () = some (true, ()) := by kernel_rfl
theorem true_ (l : List Int) (n1 n2 k n4 : Int) (hl : Wf (.slr (.int .u8)) l) (h1 : Wf (.int .u8) n1) (h2 : Wf (.int .u8) n2) (hk : Wf (.int .u64) k) (h4 : Wf (.int .u8) n4) : law28_EventRoundTrip_C (l, n1, n2, k, n4, ()) = some (true, ()) := by
  apply Ret.true_
  unfold law28_EventRoundTrip_C law28_EventRoundTrip_F
  rw [aw, Option.bind_some]
  simp only [Bool.not_true, cond_false]
  have h1 := u8_of h1
  have h2 := u8_of h2
  have h4 := u8_of h4
  apply Ret.cond
  · intro _; exact Ret.some rfl
  intro _
  refine Ret.bind (batch_ok (okS_of hl) h1.1 h2) ?_
  rintro ⟨⟨c, m, evs, ⟨⟩⟩, _⟩ hst
  simp only at hst ⊢
  rw [event_Pack_eq k _ hst.s hst.n]
  simp only [Option.bind_some]
  have hp : Pack0.pack k (c, m, evs, ()) = (packB k (c, m, evs, ()), 0, ()) := by unfold Pack0.pack; rw [hst.c]; rfl
  rw [hp]
  simp only
  have hlen : (packB k (c, m, evs, ())).length < 100000 := by
    unfold packB
    have : (body (c, m, evs, ())).length ≤ 6100 := body_len (FitB.of hst.n hst.c)
    rw [List.length_append, word_len]; omega
  have hu : Unpack0.unpack k (packB k (c, m, evs, ())) = ((c, m, evs, ()), 0, ()) := by
    unfold packB
    rw [unpack_sealed, read_body hst.n hst.c]
  rw [event_Unpack_eq k _ hlen, hu]
  simp only [Option.bind_some]
  obtain ⟨n4, rfl⟩ := Int.eq_ofNat_of_zero_le h4.1
  rw [show Int.tmod ((n4 : Nat) : Int) 64 = ((n4 % 64 : Nat) : Int) from rfl]
  refine Ret.guard (by simp; omega) ?_
  generalize ibits .u64 2 k (ishl .u64 1 ((n4 % 64 : Nat) : Int)) = k'
  rw [event_Unpack_eq k' _ hlen, ref28_Unpack_eq k' _ hlen]
  have h3 := unpack_len k' (packB k (c, m, evs, ()))
  generalize Unpack0.unpack k' (packB k (c, m, evs, ())) = u at h3 ⊢
  obtain ⟨⟨uc, um, ue, ⟨⟩⟩, er, _⟩ := u
  simp only at h3 ⊢
  have hm := hst.m
  simp only at hm
  simp only [Option.bind_some, show ((0 : Int) == 0) = true from rfl, cond_true, beq_self_eq_true]
  rw [sameBatch (c, m, evs, ()) (by simp only; omega)]
  simp only [Option.bind_some, cond_true]
  rw [sameBatch (uc, um, ue, ()) (by simp only; omega)]
  exact Ret.some rfl
end Go.Proofs.YtabkfgkpofjeoaaDoor.PureEventRoundTrip
