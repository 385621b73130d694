/- Loops; keys: the document's Key is the program's. -/
import Derived.Test.YtabkfgkpofjeoaaDoorBase
import Derived.Laws.BitsLemmas
set_option linter.unusedVariables false
set_option linter.unusedSimpArgs false
namespace Go.Proofs.YtabkfgkpofjeoaaDoor.Key0
open Go Go.Sy Go.Proofs.YtabkfgkpofjeoaaDoor.F Go.Proofs.YtabkfgkpofjeoaaDoor.Base
theorem maxLen_eq : maxLen = 9223372036854775807 := rfl
theorem wrap_id {n : Int} (h1 : -9223372036854775808 ≤ n) (h2 : n ≤ 9223372036854775807) : IntKind.wrap .i64 n = n := by
  rw [IntKind.wrap_i64]; omega
/-- A loop that counts up: what it comes to at place i. -/
theorem iter_up {α R : Type} (f : (α → Option R) → α → Option R) (x : Nat → α) (G : Nat → Option R) (n : Nat) (h : ∀ i, i ≤ n → ∀ self : α → Option R, (i < n → self (x (i + 1)) = G (i + 1)) → f self (x i) = G i) : ∀ k i, i + k = n → ∀ fuel, k < fuel → iter fuel f (x i) = G i
  | _, _, _, 0, hf => absurd hf (Nat.not_lt_zero _)
  | 0, i, hi, fuel + 1, hf => h i (by omega) _ (fun hl => by omega)
  | k + 1, i, hi, fuel + 1, hf => h i (by omega) _ (fun hl => iter_up f x G n h k (i + 1) (by omega) fuel (by omega))
theorem iter_up0 {α R : Type} {f : (α → Option R) → α → Option R} {x0 : α} (x : Nat → α) (G : Nat → Option R) (n : Nat) {fuel : Nat} (h0 : x 0 = x0) (hf : n < fuel) (h : ∀ i, i ≤ n → ∀ self : α → Option R, (i < n → self (x (i + 1)) = G (i + 1)) → f self (x i) = G i) : iter fuel f x0 = G 0 := by
  rw [← h0]; exact iter_up f x G n h n 0 (Nat.zero_add n) fuel hf
theorem inb_true {i n : Nat} (h : i < n) : inb (i : Int) n = true := by unfold inb; simp; omega
theorem bOf_eq {s : ByteArray} {i : Nat} (h : i < s.size) : bOf s (i : Int) = ((s[i]'h).toNat : Int) := by
  unfold bOf
  rw [dif_pos (by simpa using h)]
  rfl
theorem okB_bool (b i : Nat) : (bif !(bif decide ((b : Int) ≥ 97) then decide ((b : Int) ≤ 122) else false) then (bif (i : Int) == 0 then true else (bif (bif !(bif decide ((b : Int) ≥ 48) then decide ((b : Int) ≤ 57) else false) then (b : Int) != 45 else false) then (b : Int) != 95 else false)) else false) = !okB b i := by
  unfold okB
  have e1 : decide ((b : Int) ≥ 97) = decide (97 ≤ b) := by congr 1; apply propext; omega
  have e2 : decide ((b : Int) ≤ 122) = decide (b ≤ 122) := by congr 1; apply propext; omega
  have e3 : decide ((b : Int) ≥ 48) = decide (48 ≤ b) := by congr 1; apply propext; omega
  have e4 : decide ((b : Int) ≤ 57) = decide (b ≤ 57) := by congr 1; apply propext; omega
  have e5 : ((b : Int) != 45) = !decide (b = 45) := by rw [Bool.eq_iff_iff]; simp; omega
  have e6 : ((b : Int) != 95) = !decide (b = 95) := by rw [Bool.eq_iff_iff]; simp; omega
  have e7 : ((i : Int) == 0) = !decide (i ≠ 0) := by rw [Bool.eq_iff_iff]; simp
  rw [e1, e2, e3, e4, e5, e6, e7]
  cases decide (97 ≤ b) <;> cases decide (b ≤ 122) <;> cases decide (48 ≤ b) <;> cases decide (b ≤ 57) <;> cases decide (b = 45) <;> cases decide (b = 95) <;> cases decide (i ≠ 0) <;> rfl
/-- From place i on all bytes may stand in a key. -/
def okFrom (s : ByteArray) (i : Nat) : Bool := decide (∀ j, j < s.size → i ≤ j → okAt s j)
theorem okFrom_step {s : ByteArray} {i : Nat} (h : i < s.size) : okFrom s i = (okB (s[i]'h).toNat i && okFrom s (i + 1)) := by
  unfold okFrom
  rw [Bool.eq_iff_iff, Bool.and_eq_true, decide_eq_true_eq, decide_eq_true_eq]
  constructor
  · intro hh
    obtain ⟨_, h2⟩ := hh i h (Nat.le_refl _)
    exact ⟨h2, fun j h1 h2 => hh j h1 (by omega)⟩
  · rintro ⟨h1, h2⟩ j hj hij
    by_cases e : i = j
    · subst e; exact ⟨h, h1⟩
    · exact h2 j hj (by omega)
theorem word_eq (s : ByteArray) (hs : s.size ≤ maxLen) : ref1_Word_C (s, ()) = some (okFrom s 0 && decide (0 < s.size), ()) := by
  rw [maxLen_eq] at hs
  unfold ref1_Word_C ref1_Word_F
  simp only
  rw [iter_up0 (x0 := ((s, 0, ()), (), ())) (fun i => ((s, (i : Int), ()), (), ())) (fun i => bif okFrom s i then some (Sum.inl ((s, ()), (), ())) else some (Sum.inr (false, ()))) s.size rfl (by omega)]
  · cases okFrom s 0
    · rfl
    · simp only [cond_true, Option.bind_some, Bool.true_and]
      congr 2
      rw [Bool.eq_iff_iff]; simp
  · intro i hi self hself
    simp only
    by_cases h : i < s.size
    · have e1 : decide ((i : Int) < (s.size : Int)) = true := by simp; omega
      rw [e1, inb_true h, bOf_eq h, okB_bool, okFrom_step h, wrap_id (by omega) (by omega)]
      simp only [cond_true]
      cases okB (s[i]'h).toNat i
      · rfl
      · simp only [Bool.not_true, cond_false, Bool.true_and]
        rw [← hself h]
        rfl
    · have e1 : decide ((i : Int) < (s.size : Int)) = false := by simp; omega
      rw [e1]
      have : okFrom s i = true := by unfold okFrom; rw [decide_eq_true_eq]; intro j h1 h2; omega
      rw [this]; rfl
theorem reserved_eq : ref1_Reserved_C () = some (words, ()) := rfl
theorem words_len : words.length = 46 := by kernel_rfl
def noneFrom (s : ByteArray) (i : Nat) : Bool := (words.drop i).all fun x => !seq x s
theorem key_eq (s : ByteArray) (hs : s.size ≤ maxLen) : ref1_Key_C (s, ()) = some (keyB s, ()) := by
  unfold ref1_Key_C ref1_Key_F
  rw [word_eq s hs]
  simp only [Option.bind_some, reserved_eq]
  have hk : keyB s = ((okFrom s 0 && decide (0 < s.size)) && (!decide ((s.size : Int) > 32) && noneFrom s 0)) := by
    unfold keyB noneFrom
    have e1 : ((List.range s.size).all fun j => decide (okAt s j)) = okFrom s 0 := by
      unfold okFrom
      rw [Bool.eq_iff_iff, List.all_eq_true, decide_eq_true_eq]
      simp
    have e2 : (words.all fun x => !decide (x.data = s.data)) = ((words.drop 0).all fun x => !seq x s) := by
      rw [List.drop_zero]
      congr 1
      funext x
      congr 1
      rw [Bool.eq_iff_iff, decide_eq_true_eq, seq_iff]
      constructor
      · intro h; cases x; cases s; simp_all
      · intro h; rw [h]
    rw [e1, e2]
    have e3 : decide (1 ≤ s.size) = decide (0 < s.size) := rfl
    have e4 : decide (s.size ≤ 32) = !decide ((s.size : Int) > 32) := by rw [Bool.eq_iff_iff]; simp; omega
    rw [e3, e4]
    cases okFrom s 0 <;> cases decide (0 < s.size) <;> cases decide ((s.size : Int) > 32) <;> rfl
  rw [hk]
  cases h1 : (okFrom s 0 && decide (0 < s.size))
  · rfl
  · cases h2 : decide ((s.size : Int) > 32)
    · simp only [Bool.not_true, Bool.not_false, Bool.true_and, cond_false]
      rw [iter_up0 (x0 := ((s, (), 0, ()), (), words, ())) (fun i => ((s, (), (i : Int), ()), (), words, ())) (fun i => bif noneFrom s i then some (Sum.inl ((), (), ())) else some (Sum.inr (false, ()))) words.length rfl (by rw [words_len]; omega)]
      · cases noneFrom s 0 <;> rfl
      · intro i hi self hself
        simp only
        rw [words_len] at hi hself ⊢
        by_cases h : i < 46
        · have e1 : decide ((i : Int) < ((46 : Nat) : Int)) = true := by simp; omega
          have hw : i < words.length := by rw [words_len]; exact h
          rw [e1, inb_true h, wrap_id (by omega) (by omega)]
          simp only [cond_true, Int.toNat_natCast]
          have e2 : noneFrom s i = (!seq (words.getD i ⟨#[]⟩) s && noneFrom s (i + 1)) := by
            unfold noneFrom
            rw [List.drop_eq_getElem_cons hw, List.all_cons, List.getD_eq_getElem?_getD, List.getElem?_eq_getElem hw]
            rfl
          rw [e2]
          cases seq (words.getD i ⟨#[]⟩) s
          · simp only [cond_false, Bool.not_false, Bool.true_and]
            rw [← hself h]
            rfl
          · rfl
        · have e1 : decide ((i : Int) < ((46 : Nat) : Int)) = false := by simp; omega
          rw [e1]
          have : noneFrom s i = true := by unfold noneFrom; rw [List.drop_eq_nil_of_le (by rw [words_len]; omega)]; rfl
          rw [this]; rfl
    · rfl
theorem tkey_eq (s : ByteArray) (hs : s.size ≤ maxLen) : text_Key_C (s, ()) = some (keyB s, ()) := by
  unfold text_Key_C
  rw [show decide (s.size ≤ 9223372036854775807) = true from decide_eq_true hs]
  rfl
end Go.Proofs.YtabkfgkpofjeoaaDoor.Key0
