/- Readers: the program's and the document's read the same. -/
import Derived.Test.YtabkfgkpofjeoaaDoorNum0
import Derived.Test.YtabkfgkpofjeoaaDoorData0
set_option linter.unusedVariables false
set_option linter.unusedSimpArgs false
set_option maxRecDepth 100000
namespace Go.Proofs.YtabkfgkpofjeoaaDoor.Read0
open Go Go.Sy Go.Proofs.YtabkfgkpofjeoaaDoor.F Go.Proofs.YtabkfgkpofjeoaaDoor.Base Go.Proofs.YtabkfgkpofjeoaaDoor.Key0 Go.Proofs.YtabkfgkpofjeoaaDoor.Num0 Go.Proofs.YtabkfgkpofjeoaaDoor.Pack0 Go.Proofs.YtabkfgkpofjeoaaDoor.Data0
/-- The groups up to place i, put together. -/
def accI (l : List Int) : Nat → Int
  | 0 => 0
  | i + 1 => ibits .u64 1 (accI l i) (ishl .u64 (IntKind.wrap .u64 (ibits .u8 0 (l.getD i 0) 127)) (7 * (i : Int)))
def unz (u : Int) : Int := if u % 2 = 0 then u / 2 else -(u / 2) - 1
def numG (l : List Int) : Nat → Nat → Int × Int × Nat
  | 0, _ => (0, 0, 0)
  | k + 1, i => bif decide ((i : Int) ≥ (l.length : Int)) then (16, 0, 0) else
    bif (bif (i : Int) == 9 then decide (l.getD i 0 > 1) else false) then (3, 0, 0) else
    bif decide (l.getD i 0 ≥ 128) then numG l k (i + 1) else
    bif (bif l.getD i 0 == 0 then decide ((i : Int) > 0) else false) then (1, 0, 0) else (0, unz (accI l (i + 1)), i + 1)
def num (l : List Int) : Int × Int × Nat := numG l 10 0
theorem accI_bd (l : List Int) : ∀ i, 0 ≤ accI l i ∧ accI l i < 18446744073709551616
  | 0 => ⟨Int.le_refl 0, by show (0 : Int) < _; omega⟩
  | i + 1 => by
    show 0 ≤ ibits .u64 1 _ _ ∧ ibits .u64 1 _ _ < 18446744073709551616
    generalize accI l i = a
    generalize ishl .u64 _ _ = b
    show 0 ≤ IntKind.wrap .u64 ((BitVec.ofInt 64 a ||| BitVec.ofInt 64 b).toNat : Int) ∧ IntKind.wrap .u64 ((BitVec.ofInt 64 a ||| BitVec.ofInt 64 b).toNat : Int) < 18446744073709551616
    rw [IntKind.wrap_u64]
    omega
theorem numG_le (l : List Int) : ∀ k i, (numG l k i).2.2 ≤ l.length
  | 0, i => Nat.zero_le _
  | k + 1, i => by
    unfold numG
    by_cases h : (i : Int) ≥ (l.length : Int)
    · rw [decide_eq_true h]; exact Nat.zero_le _
    rw [decide_eq_false h, cond_false]
    cases (bif (i : Int) == 9 then decide (l.getD i 0 > 1) else false)
    · cases decide (l.getD i 0 ≥ 128)
      · cases (bif l.getD i 0 == 0 then decide ((i : Int) > 0) else false)
        · show i + 1 ≤ l.length; omega
        · exact Nat.zero_le _
      · exact numG_le l k (i + 1)
    · exact Nat.zero_le _
theorem shr1 (u : Int) : ishr .u64 u 1 = u / 2 := by
  unfold ishr
  rw [show (2 : Int) ^ (min (Int.toNat 1) (IntKind.bits .u64)) = 2 from rfl, Int.fdiv_eq_ediv_of_nonneg _ (by omega)]
theorem and1 {u : Int} (h0 : 0 ≤ u) (h1 : u < 18446744073709551616) : ibits .u64 0 u 1 = u % 2 := by
  obtain ⟨n, rfl⟩ := Int.eq_ofNat_of_zero_le h0
  show IntKind.wrap .u64 ((BitVec.ofInt 64 (n : Int) &&& BitVec.ofInt 64 1).toNat : Int) = _
  rw [BitVec.toNat_and, ofInt_u64 n (by omega), show (BitVec.ofInt 64 1).toNat = 2 ^ 1 - 1 from rfl, Nat.and_two_pow_sub_one_eq_mod, u64s (by omega)]
  omega
theorem unzW {u : Int} (h0 : 0 ≤ u) (h1 : u < 18446744073709551616) : ibits .i64 2 (IntKind.wrap .i64 (ishr .u64 u 1)) (IntKind.wrap .i64 (0 - (IntKind.wrap .i64 (ibits .u64 0 u 1)))) = unz u := by
  rw [shr1, and1 h0 h1, wrap_id (n := u / 2) (by omega) (by omega)]
  unfold unz
  obtain ⟨n, rfl⟩ := Int.eq_ofNat_of_zero_le h0
  by_cases h : (n : Int) % 2 = 0
  · rw [if_pos h, h]
    show IntKind.wrap .i64 ((BitVec.ofInt 64 ((n : Int) / 2) ^^^ BitVec.ofInt 64 0).toNat : Int) = _
    rw [show BitVec.ofInt 64 0 = 0#64 from rfl, BitVec.xor_zero, show (n : Int) / 2 = ((n / 2 : Nat) : Int) by omega, ofInt_u64 (n / 2) (by omega), wrap_id (by omega) (by omega)]
  · rw [if_neg h, show (n : Int) % 2 = 1 by omega]
    show IntKind.wrap .i64 ((BitVec.ofInt 64 ((n : Int) / 2) ^^^ BitVec.ofInt 64 (-1)).toNat : Int) = _
    rw [show BitVec.ofInt 64 (-1) = BitVec.allOnes 64 from rfl, BitVec.xor_allOnes, BitVec.toNat_not, show (n : Int) / 2 = ((n / 2 : Nat) : Int) by omega, ofInt_u64 (n / 2) (by omega), IntKind.wrap_i64]
    omega
theorem unzR {u : Int} (h0 : 0 ≤ u) (h1 : u < 18446744073709551616) : (bif ibits .u64 0 u 1 == 1 then IntKind.wrap .i64 (ibits .u64 2 18446744073709551615 (ishr .u64 u 1)) else IntKind.wrap .i64 (ishr .u64 u 1)) = unz u := by
  rw [shr1, and1 h0 h1]
  unfold unz
  obtain ⟨n, rfl⟩ := Int.eq_ofNat_of_zero_le h0
  by_cases h : (n : Int) % 2 = 0
  · rw [if_pos h, h]
    show IntKind.wrap .i64 ((n : Int) / 2) = _
    rw [wrap_id (by omega) (by omega)]
  · rw [if_neg h, show (n : Int) % 2 = 1 by omega]
    show IntKind.wrap .i64 (ibits .u64 2 18446744073709551615 ((n : Int) / 2)) = _
    rw [xor_comm', show (n : Int) / 2 = ((n / 2 : Nat) : Int) by omega, xor_ones (by omega), IntKind.wrap_i64]
    omega
abbrev W3 : Type := List Int × Int × Unit
abbrev R4 : Type := List Int × Int × Int × Unit
theorem wnum0 (l : List Int) (hl : l.length < 1000000) : wire_Reader_Number_C ((l, 0, ()), ()) = some ((num l).2.1, (l.drop (num l).2.2, (num l).1, ()), ()) := by
  unfold wire_Reader_Number_C wire_Reader_Number_F
  simp only
  rw [show ((0 : Int) != 0) = false from rfl, cond_false]
  rw [iter_up0 (x0 := (((), 0, 0, ()), ((l, 0, ()), ()), ())) (fun i => (((), accI l i, (i : Int), ()), ((l, 0, ()), ()), ())) (fun i => some ((numG l (10 - i) i).2.1, (l.drop (numG l (10 - i) i).2.2, (numG l (10 - i) i).1, ()), ())) 9 rfl (by omega)]
  · rfl
  · intro i hi self hself
    simp only
    rw [show 10 - i = (9 - i) + 1 by omega, numG]
    by_cases h1 : (i : Int) ≥ (l.length : Int)
    · rw [decide_eq_true h1]
      simp only [cond_true, List.drop_zero]
    rw [decide_eq_false h1, inb_true (by omega : i < l.length), Int.toNat_natCast]
    simp only [cond_false, cond_true]
    cases h2 : (bif (i : Int) == 9 then decide (l.getD i 0 > 1) else false)
    · simp only [cond_false]
      rw [wrap_id (n := 7 * (i : Int)) (by omega) (by omega), wrap_id (n := (i : Int) + 1) (by omega) (by omega), show decide (0 ≤ 7 * (i : Int)) = true by simp; omega]
      simp only [cond_true]
      have hb := accI_bd l (i + 1)
      rw [show ibits .u64 1 (accI l i) (ishl .u64 (IntKind.wrap .u64 (ibits .u8 0 (l.getD i 0) 127)) (7 * (i : Int))) = accI l (i + 1) from rfl]
      cases h3 : decide (l.getD i 0 ≥ 128)
      · simp only [cond_false]
        cases h4 : (bif l.getD i 0 == 0 then decide ((i : Int) > 0) else false)
        · simp only [cond_false]
          rw [unzW hb.1 hb.2]
          have : cutOk (some ((i : Int) + 1)) none none l.length = true := by simp [cutOk]; omega
          rw [this]
          rfl
        · simp only [cond_true, List.drop_zero]
      · simp only [cond_true]
        have hlt : i < 9 := by
          rcases Nat.lt_or_ge i 9 with h | h
          · exact h
          · have : i = 9 := by omega
            subst this
            rw [decide_eq_true_eq] at h3
            rw [show (((9 : Nat) : Int) == 9) = true from rfl, cond_true, decide_eq_false_iff_not] at h2
            omega
        have := hself hlt
        rw [show 10 - (i + 1) = 9 - i by omega] at this
        exact this
    · simp only [cond_true, List.drop_zero]
theorem getD_drop (l : List Int) (p i : Nat) : (l.drop p).getD i 0 = l.getD (p + i) 0 := by
  rw [List.getD_eq_getElem?_getD, List.getD_eq_getElem?_getD, List.getElem?_drop]
theorem rnum0 (l : List Int) (p : Nat) (hp : p ≤ l.length) (hl : l.length < 1000000) : ref4_Reader_Number_C ((l, (p : Int), 0, ()), ()) = some ((num (l.drop p)).2.1, (l, ((p + (num (l.drop p)).2.2 : Nat) : Int), (num (l.drop p)).1, ()), ()) := by
  unfold ref4_Reader_Number_C ref4_Reader_Number_F
  simp only
  rw [iter_up0 (x0 := (((), 0, 0, ()), ((l, (p : Int), 0, ()), ()), ())) (fun i => (((), accI (l.drop p) i, (i : Int), ()), ((l, (p : Int), 0, ()), ()), ())) (fun i => some (Sum.inr ((numG (l.drop p) (10 - i) i).2.1, (l, ((p + (numG (l.drop p) (10 - i) i).2.2 : Nat) : Int), (numG (l.drop p) (10 - i) i).1, ()), ()))) 9 rfl (by omega)]
  · rfl
  · intro i hi self hself
    simp only
    rw [show 10 - i = (9 - i) + 1 by omega, numG]
    rw [show ((0 : Int) == 0) = true from rfl, cond_true]
    rw [wrap_id (n := (p : Int) + (i : Int)) (by omega) (by omega), List.length_drop]
    rw [show decide ((p : Int) + (i : Int) ≥ (l.length : Int)) = decide ((i : Int) ≥ ((l.length - p : Nat) : Int)) by congr 1; apply propext; omega]
    by_cases h1 : (i : Int) ≥ ((l.length - p : Nat) : Int)
    · rw [decide_eq_true h1]
      rfl
    rw [decide_eq_false h1, show (p : Int) + (i : Int) = ((p + i : Nat) : Int) by omega, inb_true (by omega : p + i < l.length), Int.toNat_natCast, ← getD_drop]
    simp only [cond_false, cond_true]
    cases h2 : (bif (i : Int) == 9 then decide ((l.drop p).getD i 0 > 1) else false)
    · simp only [cond_false]
      rw [wrap_id (n := 7 * (i : Int)) (by omega) (by omega), wrap_id (n := (i : Int) + 1) (by omega) (by omega), show IntKind.wrap .u64 (7 * (i : Int)) = 7 * (i : Int) by rw [IntKind.wrap_u64]; omega, show decide (0 ≤ 7 * (i : Int)) = true by simp; omega]
      simp only [cond_true]
      have hb := accI_bd (l.drop p) (i + 1)
      rw [show ibits .u64 1 (accI (l.drop p) i) (ishl .u64 (IntKind.wrap .u64 (ibits .u8 0 ((l.drop p).getD i 0) 127)) (7 * (i : Int))) = accI (l.drop p) (i + 1) from rfl]
      rw [show decide ((l.drop p).getD i 0 > 127) = decide ((l.drop p).getD i 0 ≥ 128) by congr 1]
      cases h3 : decide ((l.drop p).getD i 0 ≥ 128)
      · simp only [cond_false]
        cases h4 : (bif (l.drop p).getD i 0 == 0 then decide ((i : Int) > 0) else false)
        · simp only [cond_false]
          have hu := unzR hb.1 hb.2
          rw [wrap_id (n := (p : Int) + ((i : Int) + 1)) (by omega) (by omega), ← hu]
          cases (ibits .u64 0 (accI (l.drop p) (i + 1)) 1 == 1) <;> rfl
        · rfl
      · simp only [cond_true]
        have hlt : i < 9 := by
          rcases Nat.lt_or_ge i 9 with h | h
          · exact h
          · have : i = 9 := by omega
            subst this
            rw [decide_eq_true_eq] at h3
            rw [show (((9 : Nat) : Int) == 9) = true from rfl, cond_true, decide_eq_false_iff_not] at h2
            omega
        have := hself hlt
        rw [show 10 - (i + 1) = 9 - i by omega] at this
        exact this
    · rfl
end Go.Proofs.YtabkfgkpofjeoaaDoor.Read0
