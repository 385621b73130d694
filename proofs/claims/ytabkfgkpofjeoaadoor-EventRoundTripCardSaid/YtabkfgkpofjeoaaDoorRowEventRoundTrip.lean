/- EventRoundTrip: for every input the call returns true, and each argument reads behind the call as it read before; the listed variables (Go's own tables) hold what the program's text lays. -/
import Derived.Test.YtabkfgkpofjeoaaDoorRows
import Derived.Test.YtabkfgkpofjeoaaDoorCards
import Derived.Test.YtabkfgkpofjeoaaDoorTie
import Derived.Test.YtabkfgkpofjeoaaDoorWalk
import Derived.Test.YtabkfgkpofjeoaaDoorPureEventRoundTrip
import Derived.SevenTiedAt
import Derived.ChangeSame
import Derived.ChangeVars
import Derived.JoinedOf
import Derived.RowKit
import Derived.LaidLaws
import Derived.LaidMore
import Derived.LaidSub
import Derived.Stop.Joined
import Derived.WalkKit
import Derived.ProofKit
import Derived.OpenShut
import Derived.ShutString
import Derived.ChangeOld
import Derived.Below
import Derived.SizedLaws
import Derived.Carry
namespace Go.Proofs.YtabkfgkpofjeoaaDoor.eventRoundTrip
open Go Go.Sy Go.ChangeShapes Go.WideShapes Go.ChangeAt Go.RowKit Go.Proofs.YtabkfgkpofjeoaaDoor.F Go.Proofs.YtabkfgkpofjeoaaDoor.Walk
set_option linter.unusedVariables false
set_option maxRecDepth 100000
theorem own : ownKnob Tryd.prog.godebug = none := by kernel_rfl
theorem laidOut : laidOutB Tryd.prog = true := by kernel_rfl
theorem door_met (os : Os) (args : Array Value) : laidMetH Tryd.prog Rows.eventRoundTripRow.laid ((World.doorLaid Tryd.prog 257 os).forCall (fun _ _ => 0) ⟨#[], args, []⟩).memory :=
  laidMet_of_run' 8 (by kernel_rfl) (by kernel_rfl)
theorem of_laid {W : World} (h : laidMetH Tryd.prog Rows.eventRoundTripRow.laid W) : Key.LaidV W := by
  have h1 : laidMet Tryd.prog Rows.eventRoundTripRow.laid W := h
  exact Key.LaidV.of_tab (Lib.tabIs_of_head Key.gN (by kernel_rfl) Tryd.underlying92 Tryd.underlying5 (by kernel_rfl) (by kernel_rfl) (rest := []) (h1.filter fun x => x.1 == "strings.asciiSpace"))
theorem lifted (os : Os) (started : os.Started) (H : Type) (enc : TypeId × Value → H) :
    ReturnsInHanded {} Tryd.checked os 8 .any (fun w args => (Rows.eventRoundTripSpec.pre enc Tryd.prog Tryd.f8 [] false w args ∧ laidMetH Tryd.prog Rows.eventRoundTripRow.laid w) ∧ sizedMet enc Tryd.prog Tryd.f8 (OpenSpec.ofChange Rows.eventRoundTripSpec) false w args)
      (Rows.eventRoundTripSpec.post enc Tryd.prog Tryd.f8 false true false false) := by
  refine returnsInHanded_of_change_and (C := Tryd.checked) (X := fun w _ => laidMetH Tryd.prog Rows.eventRoundTripRow.laid w) (fun _ _ _ hh h => h.of_heap hh) own started (by kernel_rfl) Tryd.func8
    (ChangeSpec.witness_shaped (enc := enc) (C := Tryd.checked) (os := os) (X := fun w _ => laidMetH Tryd.prog Rows.eventRoundTripRow.laid w) false (World.doorLaid Tryd.prog 257 os) #[.slice none 0 0, .int .u8 0, .int .u8 0, .int .u64 0, .int .u8 0] 8 rfl (World.shaped_of_RefB (by kernel_rfl) (by kernel_rfl)) (by kernel_rfl) (by kernel_rfl) (by kernel_rfl) (door_met os _)) ?_
  intro W base args ds gs before hval0 hW _ _ hL _
  have hval : ∀ (j : Nat) t v, Tryd.f8.params[j]? = some t → args[j]? = some v → Value.okWide Tryd.prog W .any base t v := hval0
  have hW' := hW
  obtain ⟨p, q, hA0, hV, rfl, hfz, hnd⟩ := hW
  have hA : DataW.TrodAll enc Tryd.prog W 0 (fun _ => true) true Tryd.f8.params.toList args.toList ds p := hA0
  rw [Tryd.params8] at hA hval
  obtain ⟨v0, vs0, d0, ds0, p0, q0, hargs, rfl, rfl, h0, r0⟩ := trodAll_cons hA
  obtain ⟨v1, vs1, d1, ds1, p1, q1, rfl, rfl, rfl, h1, r1⟩ := trodAll_cons r0
  obtain ⟨v2, vs2, d2, ds2, p2, q2, rfl, rfl, rfl, h2, r2⟩ := trodAll_cons r1
  obtain ⟨v3, vs3, d3, ds3, p3, q3, rfl, rfl, rfl, h3, r3⟩ := trodAll_cons r2
  obtain ⟨v4, vs4, d4, ds4, p4, q4, rfl, rfl, rfl, h4, r4⟩ := trodAll_cons r3
  obtain ⟨rfl, rfl, rfl⟩ := trodAll_nil r4
  obtain rfl : args = #[v0, v1, v2, v3, v4] := by cases args; simp_all
  obtain ⟨rfl, rfl⟩ := trodVars_none hV
  have lt0 : ∀ x ∈ p0, x.block < W.heap.size := by obtain ⟨m, hm⟩ := h0; exact DataW.trod_lt m _ _ _ hm
  obtain ⟨y0, e0, w0⟩ := arg_enc tabOk (t := 28) (r := ⟨.slr (.int .u8), .sl 5, 24⟩) rfl rfl (hval 0 28 v0 rfl rfl) h0
  have lt1 : ∀ x ∈ p1, x.block < W.heap.size := by obtain ⟨m, hm⟩ := h1; exact DataW.trod_lt m _ _ _ hm
  obtain ⟨y1, e1, w1⟩ := arg_enc tabOk (t := 5) (r := ⟨.int .u8, .int .u8, 1⟩) rfl rfl (hval 1 5 v1 rfl rfl) h1
  have lt2 : ∀ x ∈ p2, x.block < W.heap.size := by obtain ⟨m, hm⟩ := h2; exact DataW.trod_lt m _ _ _ hm
  obtain ⟨y2, e2, w2⟩ := arg_enc tabOk (t := 5) (r := ⟨.int .u8, .int .u8, 1⟩) rfl rfl (hval 2 5 v2 rfl rfl) h2
  have lt3 : ∀ x ∈ p3, x.block < W.heap.size := by obtain ⟨m, hm⟩ := h3; exact DataW.trod_lt m _ _ _ hm
  obtain ⟨y3, e3, w3⟩ := arg_enc tabOk (t := 36) (r := ⟨.int .u64, .int .u64, 8⟩) rfl rfl (hval 3 36 v3 rfl rfl) h3
  have lt4 : ∀ x ∈ p4, x.block < W.heap.size := by obtain ⟨m, hm⟩ := h4; exact DataW.trod_lt m _ _ _ hm
  obtain ⟨y4, e4, w4⟩ := arg_enc tabOk (t := 5) (r := ⟨.int .u8, .int .u8, 1⟩) rfl rfl (hval 4 5 v4 rfl rfl) h4
  clear hA0 hval0
  refine (law_calls g8 (xs := (y0, (y1, (y2, (y3, (y4, ())))))) (vs := [v0, v1, v2, v3, v4]) (PureEventRoundTrip.true_ y0 y1 y2 y3 y4 w0 w1 w2 w3 w4) ⟨v0, _, rfl, e0, ⟨v1, _, rfl, e1, ⟨v2, _, rfl, e2, ⟨v3, _, rfl, e3, ⟨v4, _, rfl, e4, ⟨rfl, rfl, rfl⟩⟩⟩⟩⟩⟩ (of_laid hL)).mono fun e W' ⟨he, bel⟩ => ?_
  subst he
  exact ⟨_, rfl, _, _, _, [], _, [], hW', trodAll_mk1 (shut_bool Tryd.underlying4 _), (trodAll_cons_mk (Below.trod laidOut (by kernel_rfl) (of_decide_eq_true (by kernel_rfl)) h0 bel lt0) (trodAll_cons_mk (Below.trod laidOut (by kernel_rfl) (of_decide_eq_true (by kernel_rfl)) h1 bel lt1) (trodAll_cons_mk (Below.trod laidOut (by kernel_rfl) (of_decide_eq_true (by kernel_rfl)) h2 bel lt2) (trodAll_cons_mk (Below.trod laidOut (by kernel_rfl) (of_decide_eq_true (by kernel_rfl)) h3 bel lt3) (trodAll_cons_mk (Below.trod laidOut (by kernel_rfl) (of_decide_eq_true (by kernel_rfl)) h4 bel lt4) trodAll_mk0))))), rfl, bel.frame _, fun h => by cases h⟩
theorem over : Rows.eventRoundTripRow.holds Tryd.pinned (OpenSpec.ofChange Rows.eventRoundTripSpec) :=
  OpenClaim.holds_of_wide 8 Tryd.f8 rfl rfl rfl rfl rfl rfl rfl ⟨rfl, rfl, rfl, rfl, rfl⟩ rfl rfl rfl rfl rfl (by kernel_rfl) Tryd.func8 (by kernel_rfl)
    (of_decide_eq_true (by kernel_rfl)) (by unfold Func.isWrapper; first | (rw [if_pos (by decide +kernel)]; kernel_rfl) | (rw [if_neg (by decide +kernel)]; exact ⟨rfl, rfl⟩))
    (fun os started H enc _ => lifted os started H enc)
theorem card_holds : Claim7.holds Tryd.pinned (.plain (OpenSpec.ofChange Rows.eventRoundTripSpec)) Rows.eventRoundTripCard :=
  Claim7.holds_tied_plain_at .later [] [.listed, .data] true (true, "3e0f3f07c51d289885b26ae9fabb736cb3a8afeacdad02adf98500c539857bcb") false
    over (fun _ h => by cases h) (by kernel_rfl) (fun _ h => by cases h) eventRoundTrip_row_tie rfl ⟨rfl, rfl⟩ (by kernel_rfl) rfl
    (fun f fn hf hfn => by
      obtain rfl : f = 8 := Option.some.inj ((show Tryd.prog.funcNamed "flagstone/flagstonelaw28.EventRoundTrip" = some 8 by kernel_rfl).symm.trans hf) |>.symm
      obtain rfl : fn = Tryd.f8 := (Option.some.inj (Tryd.func8.symm.trans hfn)).symm
      exact ⟨by kernel_rfl, fun j t ht => by
        rw [Tryd.params8] at ht
        have hm : t ∈ [28, 5, 5, 36, 5] := by simpa using Array.mem_of_getElem? ht
        have hall : ([28, 5, 5, 36, 5].all fun u => !Tryd.prog.wantsStandIn u) = true := by kernel_rfl
        exact (show Tryd.prog.wantsStandIn t = false by simpa using List.all_eq_true.1 hall t hm)⟩)
    (by kernel_rfl)
end Go.Proofs.YtabkfgkpofjeoaaDoor.eventRoundTrip
namespace Go.Proofs.YtabkfgkpofjeoaaDoor
/-- The card, under a short name, for the claim. -/
theorem eventRoundTrip_card : Rows.EventRoundTripCardSaid := eventRoundTrip.card_holds
#print axioms eventRoundTrip_card
end Go.Proofs.YtabkfgkpofjeoaaDoor
