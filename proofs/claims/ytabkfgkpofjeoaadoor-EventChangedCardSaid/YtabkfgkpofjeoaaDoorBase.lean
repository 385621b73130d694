/- Small laws on the words of the evaluator. -/
import Derived.Test.YtabkfgkpofjeoaaDoorSyC
import Derived.Test.YtabkfgkpofjeoaaDoorF
import Derived.KernelRfl
set_option linter.unusedVariables false
set_option linter.unusedSimpArgs false
namespace Go.Proofs.YtabkfgkpofjeoaaDoor.Base
open Go Go.Sy Go.Proofs.YtabkfgkpofjeoaaDoor.F
abbrev Ev : Type := ByteArray × Int × Int × Int × ByteArray × ByteArray × ByteArray × Int × Int × Int × Unit
abbrev Bt : Type := ByteArray × Int × List Ev × Unit
abbrev EvT : Ty := .cons .str (.cons (.int .i64) (.cons (.int .i64) (.cons (.int .i64) (.cons .str (.cons .str (.cons .str (.cons (.int .i64) (.cons (.int .i64) (.cons (.int .i64) .nil)))))))))
abbrev BtT : Ty := .cons .str (.cons (.int .i64) (.cons (.slr EvT) .nil))
/-- Texts as lists of bytes. -/
theorem seq_iff {x y : ByteArray} : seq x y = true ↔ x = y := by
  unfold seq
  rw [beq_iff_eq, ByteArray.toList_eq, ByteArray.toList_eq]
  constructor
  · intro h; cases x; cases y; congr 1; exact Array.ext' h
  · intro h; rw [h]
theorem seq_refl (x : ByteArray) : seq x x = true := seq_iff.2 rfl
theorem seq_comm (x y : ByteArray) : seq x y = seq y x := by
  rw [Bool.eq_iff_iff, seq_iff, seq_iff]; exact eq_comm
theorem bl_irrefl : ∀ l : List UInt8, Op.bytesLess l l = false
  | [] => rfl
  | a :: l => by simp [Op.bytesLess, bl_irrefl l]
theorem bl_trans : ∀ {a b c : List UInt8}, Op.bytesLess a b = true → Op.bytesLess b c = true → Op.bytesLess a c = true
  | [], [], _, h, _ => by simp [Op.bytesLess] at h
  | _ :: _, [], _, h, _ => by simp [Op.bytesLess] at h
  | _, _ :: _, [], _, h => by simp [Op.bytesLess] at h
  | [], _ :: _, _ :: _, _, _ => rfl
  | a :: x, b :: y, c :: z, h, k => by
    simp only [Op.bytesLess, Bool.or_eq_true, Bool.and_eq_true, decide_eq_true_eq, beq_iff_eq] at h k ⊢
    rcases h with h | ⟨rfl, h⟩ <;> rcases k with k | ⟨rfl, k⟩
    · exact .inl (UInt8.lt_trans h k)
    · exact .inl h
    · exact .inl k
    · exact .inr ⟨rfl, bl_trans h k⟩
theorem bl_tri : ∀ {a b : List UInt8}, Op.bytesLess a b = false → Op.bytesLess b a = false → a = b
  | [], [], _, _ => rfl
  | [], _ :: _, h, _ => by cases h
  | _ :: _, [], _, h => by cases h
  | a :: x, b :: y, h, k => by
    simp only [Op.bytesLess, Bool.or_eq_false_iff, Bool.and_eq_false_iff, decide_eq_false_iff_not, beq_eq_false_iff_ne] at h k
    have e : a = b := by
      have h1 := h.1; have h2 := k.1
      rw [UInt8.not_lt] at h1 h2
      exact UInt8.le_antisymm h2 h1
    subst e
    have h3 := h.2.resolve_left (fun h => h rfl)
    have k3 := k.2.resolve_left (fun h => h rfl)
    rw [bl_tri h3 k3]
theorem slt_irrefl (x : ByteArray) : slt x x = false := bl_irrefl _
theorem slt_trans {x y z : ByteArray} (h : slt x y = true) (k : slt y z = true) : slt x z = true := bl_trans h k
theorem slt_tri {x y : ByteArray} (h : slt x y = false) (k : slt y x = false) : x = y := by
  have := bl_tri h k
  apply seq_iff.1
  unfold seq
  rw [this]; simp
theorem slt_asymm {x y : ByteArray} (h : slt x y = true) : slt y x = false := by
  cases k : slt y x with
  | false => rfl
  | true => have := slt_trans h k; rw [slt_irrefl] at this; cases this
/-- The order of events. -/
def less (a b : Ev) : Bool := bif a.2.2.2.1 != b.2.2.2.1 then decide (a.2.2.2.1 < b.2.2.2.1) else bif !seq a.1 b.1 then slt a.1 b.1 else decide (a.2.1 < b.2.1)
theorem less_iff {a b : Ev} : less a b = true ↔ a.2.2.2.1 < b.2.2.2.1 ∨ (a.2.2.2.1 = b.2.2.2.1 ∧ (slt a.1 b.1 = true ∨ (a.1 = b.1 ∧ a.2.1 < b.2.1))) := by
  unfold less
  by_cases h1 : a.2.2.2.1 = b.2.2.2.1
  · have e1 : (a.2.2.2.1 != b.2.2.2.1) = false := by simp [h1]
    rw [e1]
    by_cases h2 : a.1 = b.1
    · have e2 : seq a.1 b.1 = true := seq_iff.2 h2
      rw [e2]
      have : slt a.1 b.1 = false := by rw [h2]; exact slt_irrefl _
      simp [h1, h2, slt_irrefl]
    · have e2 : seq a.1 b.1 = false := by rw [Bool.eq_false_iff]; exact fun h => h2 (seq_iff.1 h)
      rw [e2]
      simp [h1, h2]
  · have e1 : (a.2.2.2.1 != b.2.2.2.1) = true := by simp [h1]
    rw [e1]
    simp only [cond_true, decide_eq_true_eq]
    constructor
    · exact .inl
    · rintro (h | h)
      · exact h
      · exact absurd h.1 h1
theorem less_irrefl (a : Ev) : less a a = false := by
  rw [Bool.eq_false_iff]
  intro h
  rcases less_iff.1 h with h | ⟨_, h | h⟩
  · omega
  · rw [slt_irrefl] at h; cases h
  · omega
theorem less_trans {a b c : Ev} (h : less a b = true) (k : less b c = true) : less a c = true := by
  rw [less_iff] at h k ⊢
  rcases h with h | ⟨h1, h | ⟨h2, h3⟩⟩ <;> rcases k with k | ⟨k1, k | ⟨k2, k3⟩⟩
  · exact .inl (by omega)
  · exact .inl (by omega)
  · exact .inl (by omega)
  · exact .inl (by omega)
  · exact .inr ⟨by omega, .inl (slt_trans h k)⟩
  · exact .inr ⟨by omega, .inl (by rw [← k2]; exact h)⟩
  · exact .inl (by omega)
  · exact .inr ⟨by omega, .inl (by rw [h2]; exact k)⟩
  · exact .inr ⟨by omega, .inr ⟨by rw [h2, k2], by omega⟩⟩
theorem less_asymm {a b : Ev} (h : less a b = true) : less b a = false := by
  cases k : less b a with
  | false => rfl
  | true => have := less_trans h k; rw [less_irrefl] at this; cases this
theorem less_tri {a b : Ev} (h : less a b = false) (k : less b a = false) : a.2.2.2.1 = b.2.2.2.1 ∧ a.1 = b.1 ∧ a.2.1 = b.2.1 := by
  have h' : ¬ less a b = true := by rw [h]; exact Bool.false_ne_true
  have k' : ¬ less b a = true := by rw [k]; exact Bool.false_ne_true
  rw [less_iff] at h' k'
  simp only [not_or, not_and] at h' k'
  have e1 : a.2.2.2.1 = b.2.2.2.1 := by omega
  have h2 := h'.2 e1
  have k2 := k'.2 e1.symm
  have e2 : a.1 = b.1 := slt_tri (by simpa using h2.1) (by simpa using k2.1)
  have h3 := h2.2 e2
  have k3 := k2.2 e2.symm
  exact ⟨e1, e2, by omega⟩
theorem event_Less_eq (a b : Ev) : event_Less_C (a, b, ()) = some (less a b, ()) := by
  unfold event_Less_C event_Less_F less
  cases (a.2.2.2.1 != b.2.2.2.1) <;> cases (!seq a.1 b.1) <;> rfl
theorem ref28_Less_eq (a b : Ev) : ref28_Less_C (a, b, ()) = some (less a b, ()) := by
  unfold ref28_Less_C ref28_Less_F less
  cases (a.2.2.2.1 != b.2.2.2.1) <;> cases (!seq a.1 b.1) <;> rfl
end Go.Proofs.YtabkfgkpofjeoaaDoor.Base
