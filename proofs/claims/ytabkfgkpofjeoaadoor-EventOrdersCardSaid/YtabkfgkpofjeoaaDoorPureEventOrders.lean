/- EventOrders over plain values: Less is the specified order, and a strict one. -/
import Derived.Test.YtabkfgkpofjeoaaDoorBase
set_option linter.unusedVariables false
set_option maxRecDepth 100000
namespace Go.Proofs.YtabkfgkpofjeoaaDoor.PureEventOrders
open Go Go.Sy Go.Proofs.YtabkfgkpofjeoaaDoor.F Go.Proofs.YtabkfgkpofjeoaaDoor.Base
theorem aw : law28_awake_C () = some (true, ()) := by kernel_rfl
theorem conj3 (t u : Int) (x y : ByteArray) (m n : Int) : (bif (bif t == u then seq x y else false) then m == n else false) = decide (t = u ∧ x = y ∧ m = n) := by
  have e2 : seq x y = decide (x = y) := by rw [Bool.eq_iff_iff, seq_iff, decide_eq_true_eq]
  rw [e2]
  by_cases h1 : t = u <;> by_cases h2 : x = y <;> simp [h1, h2]
  rw [Bool.eq_iff_iff]; simp
theorem same_iff (a b : Ev) : boolEq (bif (bif a.2.2.2.1 == b.2.2.2.1 then seq a.1 b.1 else false) then a.2.1 == b.2.1 else false) (!boolEq (less a b) (less b a)) = false := by
  rw [conj3]
  have no : ∀ a b : Ev, less a b = true → ¬ (a.2.2.2.1 = b.2.2.2.1 ∧ a.1 = b.1 ∧ a.2.1 = b.2.1) := by
    rintro a b h ⟨h1, h2, h3⟩
    rcases less_iff.1 h with h | ⟨_, h | h⟩
    · omega
    · rw [h2, slt_irrefl] at h; cases h
    · omega
  cases h : less a b with
  | true => rw [less_asymm h, decide_eq_false (no a b h)]; rfl
  | false =>
    cases k : less b a with
    | true => rw [decide_eq_false (fun ⟨h1, h2, h3⟩ => no b a k ⟨h1.symm, h2.symm, h3.symm⟩)]; rfl
    | false => rw [decide_eq_true (less_tri h k)]; rfl
/-- What stands behind the changes of b and c. -/
theorem core (a b c : Ev) : (Option.bind (event_Less_C (a, b, ())) fun r32 =>
Option.bind (ref28_Less_C (a, b, ())) fun r33 =>
Option.bind (bif !(!boolEq r32.1 r33.1) then event_Less_C (b, c, ()) else some (false, ())) fun r34 =>
Option.bind (bif !(!boolEq r32.1 r33.1) then ref28_Less_C (b, c, ()) else some (false, ())) fun r35 =>
Option.bind (bif !(bif !boolEq r32.1 r33.1 then true else !boolEq r34.1 r35.1) then event_Less_C (a, a, ()) else some (false, ())) fun r36 =>
bif (bif (bif !boolEq r32.1 r33.1 then true else !boolEq r34.1 r35.1) then true else r36.1) then
(some (false, ()))
else
Option.bind (event_Less_C (a, b, ())) fun r37 =>
Option.bind (event_Less_C (b, a, ())) fun r38 =>
bif boolEq (bif (bif a.2.2.2.1 == b.2.2.2.1 then seq a.1 b.1 else false) then a.2.1 == b.2.1 else false) (!boolEq r37.1 r38.1) then
(some (false, ()))
else
Option.bind (event_Less_C (a, b, ())) fun r39 =>
Option.bind (bif r39.1 then event_Less_C (b, c, ()) else some (false, ())) fun r40 =>
Option.bind (bif !(!(bif r39.1 then r40.1 else false)) then event_Less_C (a, c, ()) else some (false, ())) fun r41 =>
some ((bif !(bif r39.1 then r40.1 else false) then true else r41.1), ())) = some (true, ()) := by
  have hs := same_iff a b
  simp only [event_Less_eq, ref28_Less_eq, Option.bind_some, less_irrefl]
  rw [hs]
  have ht := @less_trans a b c
  generalize less a b = p at *
  generalize less b c = q at *
  generalize less a c = r at *
  revert ht
  cases p <;> cases q <;> cases r <;> simp [boolEq]
theorem true_ (a b c : Ev) (k : Int) (_ : Wf EvT a) (_ : Wf EvT b) (_ : Wf EvT c) (_ : Wf (.int .u8) k) : law28_EventOrders_C (a, b, c, k, ()) = some (true, ()) := by
  unfold law28_EventOrders_C law28_EventOrders_F
  rw [aw]
  simp only [Option.bind_some, Bool.not_true, cond_false]
  cases h1 : (Int.tmod k 2 == 1) <;> cases h2 : (Int.tmod (IntKind.wrap .u8 (Int.tdiv k 2)) 2 == 1) <;> simp only [cond_true, cond_false]
  · exact core a b c
  · exact core a (a.1, b.2) (a.1, c.2)
  · exact core a (b.1, b.2.1, b.2.2.1, a.2.2.2.1, b.2.2.2.2) (c.1, c.2.1, c.2.2.1, a.2.2.2.1, c.2.2.2.2)
  · exact core a (a.1, b.2.1, b.2.2.1, a.2.2.2.1, b.2.2.2.2) (a.1, c.2.1, c.2.2.1, a.2.2.2.1, c.2.2.2.2)
end Go.Proofs.YtabkfgkpofjeoaaDoor.PureEventOrders
