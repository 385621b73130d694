/- CheckBatch: the program's and the document's. -/
import Derived.Test.YtabkfgkpofjeoaaDoorCheck0
set_option linter.unusedVariables false
set_option linter.unusedSimpArgs false
set_option maxRecDepth 100000
namespace Go.Proofs.YtabkfgkpofjeoaaDoor.Batch0
open Go Go.Sy Go.Proofs.YtabkfgkpofjeoaaDoor.F Go.Proofs.YtabkfgkpofjeoaaDoor.Base Go.Proofs.YtabkfgkpofjeoaaDoor.Key0 Go.Proofs.YtabkfgkpofjeoaaDoor.Check0
def dE : Ev := ((⟨#[]⟩ : ByteArray), 0, 0, 0, (⟨#[]⟩ : ByteArray), (⟨#[]⟩ : ByteArray), (⟨#[]⟩ : ByteArray), 0, 0, 0, ())
/-- What the event at place i errs with. -/
def stepB (b : Bt) (i : Nat) : Int :=
  bif check (b.2.2.1.getD i dE) != 0 then check (b.2.2.1.getD i dE) else
  bif !seq (b.2.2.1.getD i dE).1 b.1 then 15 else
  bif (bif decide ((b.2.2.1.getD i dE).2.1 < b.2.1) then true else (bif decide ((i : Int) > 0) then decide ((b.2.2.1.getD i dE).2.1 ≤ (b.2.2.1.getD (i - 1) dE).2.1) else false)) then 9 else 0
def fromB (b : Bt) : Nat → Nat → Int
  | 0, _ => 0
  | k + 1, i => bif stepB b i != 0 then stepB b i else fromB b k (i + 1)
def chkB (b : Bt) : Int :=
  bif !keyB b.1 then 6 else bif (bif decide (b.2.1 < 1) then true else decide (b.2.1 > 1073741825)) then 3 else bif decide ((b.2.2.1.length : Int) > 32) then 5 else fromB b b.2.2.1.length 0
structure SizesB (b : Bt) : Prop where
  k : b.1.size ≤ maxLen
  e : ∀ e ∈ b.2.2.1, Sizes e
theorem SizesB.of {b : Bt} (h : Wf BtT b) : SizesB b := ⟨h.1, fun e he => Sizes.of (h.2.2.1.2 e he)⟩
theorem SizesB.at {b : Bt} (h : SizesB b) {i : Nat} (hi : i < b.2.2.1.length) : Sizes (b.2.2.1.getD i dE) := by
  rw [List.getD_eq_getElem?_getD, List.getElem?_eq_getElem hi]
  exact h.e _ (List.getElem_mem hi)
def GB (b : Bt) (i : Nat) : Option ((Unit × Unit × Unit) ⊕ (Int × Unit)) :=
  bif fromB b (b.2.2.1.length - i) i != 0 then some (Sum.inr (fromB b (b.2.2.1.length - i) i, ())) else some (Sum.inl ((), (), ()))
theorem GB_step (b : Bt) {i : Nat} (hi : i < b.2.2.1.length) : GB b i =
    bif check (b.2.2.1.getD i dE) != 0 then some (Sum.inr (check (b.2.2.1.getD i dE), ())) else
    bif !seq (b.2.2.1.getD i dE).1 b.1 then some (Sum.inr (15, ())) else
    bif (bif decide ((b.2.2.1.getD i dE).2.1 < b.2.1) then true else (bif decide ((i : Int) > 0) then decide ((b.2.2.1.getD i dE).2.1 ≤ (b.2.2.1.getD (i - 1) dE).2.1) else false)) then some (Sum.inr (9, ())) else GB b (i + 1) := by
  unfold GB
  have e : b.2.2.1.length - i = (b.2.2.1.length - (i + 1)) + 1 := by omega
  rw [e, fromB]
  unfold stepB
  cases h : (check (b.2.2.1.getD i dE) != 0)
  · simp only [cond_false]
    cases (!seq (b.2.2.1.getD i dE).1 b.1)
    · simp only [cond_false]
      cases (bif decide ((b.2.2.1.getD i dE).2.1 < b.2.1) then true else (bif decide ((i : Int) > 0) then decide ((b.2.2.1.getD i dE).2.1 ≤ (b.2.2.1.getD (i - 1) dE).2.1) else false)) <;> rfl
    · rfl
  · simp only [cond_true, h]
theorem prev_at {i n : Nat} (hi : i < n) (hn : n ≤ 32) : (IntKind.wrap .i64 ((i : Int) - 1)).toNat = i - 1 := by
  rw [wrap_id (by omega) (by omega)]; omega
theorem prev_ok {i n : Nat} (hi : i < n) (hn : n ≤ 32) (c : Bool) : (!((decide ((i : Int) > 0)) && (!c)) || (inb (IntKind.wrap .i64 ((i : Int) - 1)) n)) = true := by
  rw [wrap_id (by omega) (by omega)]
  by_cases h : i = 0
  · subst h; simp
  · have : inb ((i : Int) - 1) n = true := by unfold inb; simp; omega
    rw [this]; simp
theorem event_CheckBatch_eq (b : Bt) (h : SizesB b) : event_CheckBatch_C (b, ()) = some (chkB b, ()) := by
  unfold event_CheckBatch_C event_CheckBatch_F chkB
  simp only [tkey_eq _ h.k, Option.bind_some]
  cases keyB b.1
  · rfl
  simp only [Bool.not_true, cond_false]
  have hl : ∀ (hn : b.2.2.1.length ≤ 32), _ := fun hn => iter_up0 (x0 := (((), b.2.2.1, (b.2.2.1.length : Int), 0, ()), (b, ()), ())) (fun i => (((), b.2.2.1, (b.2.2.1.length : Int), (i : Int), ()), (b, ()), ())) (GB b) b.2.2.1.length (f := fun (self6 : ((Unit × (List Ev × (Int × (Int × Unit)))) × ((Bt × Unit) × Unit)) → Option ((Unit × Unit × Unit) ⊕ (Int × Unit))) (x5 : ((Unit × (List Ev × (Int × (Int × Unit)))) × ((Bt × Unit) × Unit))) =>
bif decide (x5.1.2.2.2.1 < x5.1.2.2.1) then
(bif inb x5.1.2.2.2.1 x5.1.2.1.length then
let v7 : Ev := x5.1.2.1.getD x5.1.2.2.2.1.toNat ((⟨#[]⟩ : ByteArray), 0, 0, 0, (⟨#[]⟩ : ByteArray), (⟨#[]⟩ : ByteArray), (⟨#[]⟩ : ByteArray), 0, 0, 0, ())
Option.bind (event_Check_C (v7, ())) fun r8 =>
bif r8.1 != 0 then
(Option.map Sum.inr (some (r8.1, ())))
else
bif !seq v7.1 x5.2.1.1.1 then
(Option.map Sum.inr (some (15, ())))
else
bif !((decide (x5.1.2.2.2.1 > 0)) && (!(decide (v7.2.1 < x5.2.1.1.2.1)))) || (inb (IntKind.wrap .i64 (x5.1.2.2.2.1 - 1)) x5.2.1.1.2.2.1.length) then
let v9 : Ev := x5.2.1.1.2.2.1.getD (IntKind.wrap .i64 (x5.1.2.2.2.1 - 1)).toNat ((⟨#[]⟩ : ByteArray), 0, 0, 0, (⟨#[]⟩ : ByteArray), (⟨#[]⟩ : ByteArray), (⟨#[]⟩ : ByteArray), 0, 0, 0, ())
bif (bif decide (v7.2.1 < x5.2.1.1.2.1) then true else (bif decide (x5.1.2.2.2.1 > 0) then decide (v7.2.1 ≤ v9.2.1) else false)) then
(Option.map Sum.inr (some (9, ())))
else
self6 (((), x5.1.2.1, x5.1.2.2.1, IntKind.wrap .i64 (x5.1.2.2.2.1 + 1), ()), (x5.2.1.1, ()), ())
else none
else none)
else
some (Sum.inl ((), (), ()))) (fuel := 100) rfl (by omega) (by
    intro i hi self hself
    simp only
    by_cases hlt : i < b.2.2.1.length
    · have e1 : decide ((i : Int) < (b.2.2.1.length : Int)) = true := by simp; omega
      rw [e1, inb_true hlt, Int.toNat_natCast]
      simp only [cond_true]
      rw [show ((⟨#[]⟩ : ByteArray), (0 : Int), (0 : Int), (0 : Int), (⟨#[]⟩ : ByteArray), (⟨#[]⟩ : ByteArray), (⟨#[]⟩ : ByteArray), (0 : Int), (0 : Int), (0 : Int), ()) = dE from rfl]
      rw [event_Check_eq _ (h.at hlt), prev_ok hlt hn, prev_at hlt hn, wrap_id (n := (i : Int) + 1) (by omega) (by omega), GB_step b hlt]
      simp only [Option.bind_some, cond_true, Option.map_some]
      have hs := hself hlt
      simp only [Int.natCast_add, Int.cast_ofNat_Int] at hs
      rw [hs]
    · have e1 : decide ((i : Int) < (b.2.2.1.length : Int)) = false := by simp; omega
      rw [e1]
      unfold GB
      rw [show b.2.2.1.length - i = 0 by omega]
      rfl)
  have fin : (hn : b.2.2.1.length ≤ 32) → _ := hl
  by_cases h1 : b.2.1 < 1
  · have e1 : decide (b.2.1 < 1) = true := decide_eq_true h1
    rw [e1]; rfl
  · have e1 : decide (b.2.1 < 1) = false := decide_eq_false h1
    rw [e1]
    simp only [cond_false]
    cases decide (b.2.1 > 1073741825)
    · simp only [cond_false]
      by_cases h3 : (b.2.2.1.length : Int) > 32
      · rw [decide_eq_true h3]; rfl
      · rw [decide_eq_false h3]
        simp only [cond_false]
        rw [Option.bind_some]
        simp only
        erw [hl (by omega)]
        unfold GB
        rw [Nat.sub_zero]
        generalize fromB b b.2.2.1.length 0 = z
        by_cases hz : z = 0
        · subst hz; rfl
        · rw [show (z != 0) = true by simpa using hz]; rfl
    · rfl
theorem ref28_CheckBatch_eq (b : Bt) (h : SizesB b) : ref28_CheckBatch_C (b, ()) = some (chkB b, ()) := by
  unfold ref28_CheckBatch_C ref28_CheckBatch_F chkB
  simp only [key_eq _ h.k, within_eq, Option.bind_some]
  cases keyB b.1
  · rfl
  simp only [Bool.not_true, cond_false]
  rw [show (!(!decide (b.2.1 < 1) && !decide (b.2.1 > 1073741825))) = (bif decide (b.2.1 < 1) then true else decide (b.2.1 > 1073741825)) by cases decide (b.2.1 < 1) <;> cases decide (b.2.1 > 1073741825) <;> rfl]
  cases (bif decide (b.2.1 < 1) then true else decide (b.2.1 > 1073741825))
  · simp only [cond_false]
    by_cases h3 : (b.2.2.1.length : Int) > 32
    · rw [decide_eq_true h3]; rfl
    · rw [decide_eq_false h3]
      simp only [cond_false]
      have hn : b.2.2.1.length ≤ 32 := by omega
      rw [iter_up0 (x0 := (((), 0, ()), (b, ()), ())) (fun i => (((), (i : Int), ()), (b, ()), ())) (GB b) b.2.2.1.length rfl (by omega)]
      · unfold GB
        rw [Nat.sub_zero]
        generalize fromB b b.2.2.1.length 0 = z
        by_cases hz : z = 0
        · subst hz; rfl
        · rw [show (z != 0) = true by simpa using hz]; rfl
      · intro i hi self hself
        simp only
        by_cases hlt : i < b.2.2.1.length
        · have e1 : decide ((i : Int) < (b.2.2.1.length : Int)) = true := by simp; omega
          rw [e1, inb_true hlt, Int.toNat_natCast]
          simp only [cond_true]
          rw [show ((⟨#[]⟩ : ByteArray), (0 : Int), (0 : Int), (0 : Int), (⟨#[]⟩ : ByteArray), (⟨#[]⟩ : ByteArray), (⟨#[]⟩ : ByteArray), (0 : Int), (0 : Int), (0 : Int), ()) = dE from rfl]
          rw [ref28_Check_eq _ (h.at hlt), prev_ok hlt hn, prev_at hlt hn, wrap_id (n := (i : Int) + 1) (by omega) (by omega), GB_step b hlt]
          simp only [Option.bind_some, cond_true, Option.map_some]
          have hs := hself hlt
          simp only [Int.natCast_add, Int.cast_ofNat_Int] at hs
          rw [hs]
        · have e1 : decide ((i : Int) < (b.2.2.1.length : Int)) = false := by simp; omega
          rw [e1]
          unfold GB
          rw [show b.2.2.1.length - i = 0 by omega]
          rfl
  · rfl
end Go.Proofs.YtabkfgkpofjeoaaDoor.Batch0
