/- EventChanged: for every input the call returns true, and each argument reads behind the call as it read before; the listed variables (Go's own tables) hold what the program's text lays. -/
import Derived.Test.YtabkfgkpofjeoaaDoorRows
import Derived.Test.YtabkfgkpofjeoaaDoorCards
import Derived.Test.YtabkfgkpofjeoaaDoorTie
import Derived.Test.YtabkfgkpofjeoaaDoorWalk
import Derived.Test.YtabkfgkpofjeoaaDoorPureEventChanged
import Derived.SevenTiedAt
import Derived.ChangeSame
import Derived.ChangeVars
import Derived.JoinedOf
import Derived.RowKit
import Derived.LaidLaws
import Derived.LaidMore
import Derived.LaidSub
import Derived.Stop.Joined
import Derived.WalkKit
import Derived.ProofKit
import Derived.OpenShut
import Derived.ShutString
import Derived.ChangeOld
import Derived.Below
import Derived.SizedLaws
import Derived.Carry
namespace Go.Proofs.YtabkfgkpofjeoaaDoor.eventChanged
open Go Go.Sy Go.ChangeShapes Go.WideShapes Go.ChangeAt Go.RowKit Go.Proofs.YtabkfgkpofjeoaaDoor.F Go.Proofs.YtabkfgkpofjeoaaDoor.Walk
set_option linter.unusedVariables false
set_option maxRecDepth 100000
theorem own : ownKnob Tryd.prog.godebug = none := by kernel_rfl
theorem laidOut : laidOutB Tryd.prog = true := by kernel_rfl
theorem door_met (os : Os) (args : Array Value) : laidMetH Tryd.prog Rows.eventChangedRow.laid ((World.doorLaid Tryd.prog 257 os).forCall (fun _ _ => 0) ⟨#[], args, []⟩).memory :=
  laidMet_of_run' 8 (by kernel_rfl) (by kernel_rfl)
theorem of_laid {W : World} (h : laidMetH Tryd.prog Rows.eventChangedRow.laid W) : Key.LaidV W := by
  have h1 : laidMet Tryd.prog Rows.eventChangedRow.laid W := h
  exact Key.LaidV.of_tab (Lib.tabIs_of_head Key.gN (by kernel_rfl) Tryd.underlying92 Tryd.underlying5 (by kernel_rfl) (by kernel_rfl) (rest := []) (h1.filter fun x => x.1 == "strings.asciiSpace"))
theorem lifted (os : Os) (started : os.Started) (H : Type) (enc : TypeId × Value → H) :
    ReturnsInHanded {} Tryd.checked os 10 .any (fun w args => (Rows.eventChangedSpec.pre enc Tryd.prog Tryd.f10 [] false w args ∧ laidMetH Tryd.prog Rows.eventChangedRow.laid w) ∧ sizedMet enc Tryd.prog Tryd.f10 (OpenSpec.ofChange Rows.eventChangedSpec) false w args)
      (Rows.eventChangedSpec.post enc Tryd.prog Tryd.f10 false true false false) := by
  refine returnsInHanded_of_change_and (C := Tryd.checked) (X := fun w _ => laidMetH Tryd.prog Rows.eventChangedRow.laid w) (fun _ _ _ hh h => h.of_heap hh) own started (by kernel_rfl) Tryd.func10
    (ChangeSpec.witness_shaped (enc := enc) (C := Tryd.checked) (os := os) (X := fun w _ => laidMetH Tryd.prog Rows.eventChangedRow.laid w) false (World.doorLaid Tryd.prog 257 os) #[.slice none 0 0, .int .u8 0, .int .u8 0, .int .u16 0, .int .u16 0, .int .u8 0, .bool false] 8 rfl (World.shaped_of_RefB (by kernel_rfl) (by kernel_rfl)) (by kernel_rfl) (by kernel_rfl) (by kernel_rfl) (door_met os _)) ?_
  intro W base args ds gs before hval0 hW _ _ hL _
  have hval : ∀ (j : Nat) t v, Tryd.f10.params[j]? = some t → args[j]? = some v → Value.okWide Tryd.prog W .any base t v := hval0
  have hW' := hW
  obtain ⟨p, q, hA0, hV, rfl, hfz, hnd⟩ := hW
  have hA : DataW.TrodAll enc Tryd.prog W 0 (fun _ => true) true Tryd.f10.params.toList args.toList ds p := hA0
  rw [Tryd.params10] at hA hval
  obtain ⟨v0, vs0, d0, ds0, p0, q0, hargs, rfl, rfl, h0, r0⟩ := trodAll_cons hA
  obtain ⟨v1, vs1, d1, ds1, p1, q1, rfl, rfl, rfl, h1, r1⟩ := trodAll_cons r0
  obtain ⟨v2, vs2, d2, ds2, p2, q2, rfl, rfl, rfl, h2, r2⟩ := trodAll_cons r1
  obtain ⟨v3, vs3, d3, ds3, p3, q3, rfl, rfl, rfl, h3, r3⟩ := trodAll_cons r2
  obtain ⟨v4, vs4, d4, ds4, p4, q4, rfl, rfl, rfl, h4, r4⟩ := trodAll_cons r3
  obtain ⟨v5, vs5, d5, ds5, p5, q5, rfl, rfl, rfl, h5, r5⟩ := trodAll_cons r4
  obtain ⟨v6, vs6, d6, ds6, p6, q6, rfl, rfl, rfl, h6, r6⟩ := trodAll_cons r5
  obtain ⟨rfl, rfl, rfl⟩ := trodAll_nil r6
  obtain rfl : args = #[v0, v1, v2, v3, v4, v5, v6] := by cases args; simp_all
  obtain ⟨rfl, rfl⟩ := trodVars_none hV
  have lt0 : ∀ x ∈ p0, x.block < W.heap.size := by obtain ⟨m, hm⟩ := h0; exact DataW.trod_lt m _ _ _ hm
  obtain ⟨y0, e0, w0⟩ := arg_enc tabOk (t := 28) (r := ⟨.slr (.int .u8), .sl 5, 24⟩) rfl rfl (hval 0 28 v0 rfl rfl) h0
  have lt1 : ∀ x ∈ p1, x.block < W.heap.size := by obtain ⟨m, hm⟩ := h1; exact DataW.trod_lt m _ _ _ hm
  obtain ⟨y1, e1, w1⟩ := arg_enc tabOk (t := 5) (r := ⟨.int .u8, .int .u8, 1⟩) rfl rfl (hval 1 5 v1 rfl rfl) h1
  have lt2 : ∀ x ∈ p2, x.block < W.heap.size := by obtain ⟨m, hm⟩ := h2; exact DataW.trod_lt m _ _ _ hm
  obtain ⟨y2, e2, w2⟩ := arg_enc tabOk (t := 5) (r := ⟨.int .u8, .int .u8, 1⟩) rfl rfl (hval 2 5 v2 rfl rfl) h2
  have lt3 : ∀ x ∈ p3, x.block < W.heap.size := by obtain ⟨m, hm⟩ := h3; exact DataW.trod_lt m _ _ _ hm
  obtain ⟨y3, e3, w3⟩ := arg_enc tabOk (t := 51) (r := ⟨.int .u16, .int .u16, 2⟩) rfl rfl (hval 3 51 v3 rfl rfl) h3
  have lt4 : ∀ x ∈ p4, x.block < W.heap.size := by obtain ⟨m, hm⟩ := h4; exact DataW.trod_lt m _ _ _ hm
  obtain ⟨y4, e4, w4⟩ := arg_enc tabOk (t := 51) (r := ⟨.int .u16, .int .u16, 2⟩) rfl rfl (hval 4 51 v4 rfl rfl) h4
  have lt5 : ∀ x ∈ p5, x.block < W.heap.size := by obtain ⟨m, hm⟩ := h5; exact DataW.trod_lt m _ _ _ hm
  obtain ⟨y5, e5, w5⟩ := arg_enc tabOk (t := 5) (r := ⟨.int .u8, .int .u8, 1⟩) rfl rfl (hval 5 5 v5 rfl rfl) h5
  have lt6 : ∀ x ∈ p6, x.block < W.heap.size := by obtain ⟨m, hm⟩ := h6; exact DataW.trod_lt m _ _ _ hm
  obtain ⟨y6, e6, w6⟩ := arg_enc tabOk (t := 4) (r := ⟨.bool, .bool, 1⟩) rfl rfl (hval 6 4 v6 rfl rfl) h6
  clear hA0 hval0
  refine (law_calls g10 (xs := (y0, (y1, (y2, (y3, (y4, (y5, (y6, ())))))))) (vs := [v0, v1, v2, v3, v4, v5, v6]) (PureEventChanged.true_ y0 y1 y2 y3 y4 y5 y6 w0 w1 w2 w3 w4 w5 w6) ⟨v0, _, rfl, e0, ⟨v1, _, rfl, e1, ⟨v2, _, rfl, e2, ⟨v3, _, rfl, e3, ⟨v4, _, rfl, e4, ⟨v5, _, rfl, e5, ⟨v6, _, rfl, e6, ⟨rfl, rfl, rfl⟩⟩⟩⟩⟩⟩⟩⟩ (of_laid hL)).mono fun e W' ⟨he, bel⟩ => ?_
  subst he
  exact ⟨_, rfl, _, _, _, [], _, [], hW', trodAll_mk1 (shut_bool Tryd.underlying4 _), (trodAll_cons_mk (Below.trod laidOut (by kernel_rfl) (of_decide_eq_true (by kernel_rfl)) h0 bel lt0) (trodAll_cons_mk (Below.trod laidOut (by kernel_rfl) (of_decide_eq_true (by kernel_rfl)) h1 bel lt1) (trodAll_cons_mk (Below.trod laidOut (by kernel_rfl) (of_decide_eq_true (by kernel_rfl)) h2 bel lt2) (trodAll_cons_mk (Below.trod laidOut (by kernel_rfl) (of_decide_eq_true (by kernel_rfl)) h3 bel lt3) (trodAll_cons_mk (Below.trod laidOut (by kernel_rfl) (of_decide_eq_true (by kernel_rfl)) h4 bel lt4) (trodAll_cons_mk (Below.trod laidOut (by kernel_rfl) (of_decide_eq_true (by kernel_rfl)) h5 bel lt5) (trodAll_cons_mk (Below.trod laidOut (by kernel_rfl) (of_decide_eq_true (by kernel_rfl)) h6 bel lt6) trodAll_mk0))))))), rfl, bel.frame _, fun h => by cases h⟩
theorem over : Rows.eventChangedRow.holds Tryd.pinned (OpenSpec.ofChange Rows.eventChangedSpec) :=
  OpenClaim.holds_of_wide 10 Tryd.f10 rfl rfl rfl rfl rfl rfl rfl ⟨rfl, rfl, rfl, rfl, rfl⟩ rfl rfl rfl rfl rfl (by kernel_rfl) Tryd.func10 (by kernel_rfl)
    (of_decide_eq_true (by kernel_rfl)) (by unfold Func.isWrapper; first | (rw [if_pos (by decide +kernel)]; kernel_rfl) | (rw [if_neg (by decide +kernel)]; exact ⟨rfl, rfl⟩))
    (fun os started H enc _ => lifted os started H enc)
theorem card_holds : Claim7.holds Tryd.pinned (.plain (OpenSpec.ofChange Rows.eventChangedSpec)) Rows.eventChangedCard :=
  Claim7.holds_tied_plain_at .later [] [.listed, .data] true (true, "3e0f3f07c51d289885b26ae9fabb736cb3a8afeacdad02adf98500c539857bcb") false
    over (fun _ h => by cases h) (by kernel_rfl) (fun _ h => by cases h) eventChanged_row_tie rfl ⟨rfl, rfl⟩ (by kernel_rfl) rfl
    (fun f fn hf hfn => by
      obtain rfl : f = 10 := Option.some.inj ((show Tryd.prog.funcNamed "flagstone/flagstonelaw28.EventChanged" = some 10 by kernel_rfl).symm.trans hf) |>.symm
      obtain rfl : fn = Tryd.f10 := (Option.some.inj (Tryd.func10.symm.trans hfn)).symm
      exact ⟨by kernel_rfl, fun j t ht => by
        rw [Tryd.params10] at ht
        have hm : t ∈ [28, 5, 5, 51, 51, 5, 4] := by simpa using Array.mem_of_getElem? ht
        have hall : ([28, 5, 5, 51, 51, 5, 4].all fun u => !Tryd.prog.wantsStandIn u) = true := by kernel_rfl
        exact (show Tryd.prog.wantsStandIn t = false by simpa using List.all_eq_true.1 hall t hm)⟩)
    (by kernel_rfl)
end Go.Proofs.YtabkfgkpofjeoaaDoor.eventChanged
namespace Go.Proofs.YtabkfgkpofjeoaaDoor
/-- The card, under a short name, for the claim. -/
theorem eventChanged_card : Rows.EventChangedCardSaid := eventChanged.card_holds
#print axioms eventChanged_card
end Go.Proofs.YtabkfgkpofjeoaaDoor
