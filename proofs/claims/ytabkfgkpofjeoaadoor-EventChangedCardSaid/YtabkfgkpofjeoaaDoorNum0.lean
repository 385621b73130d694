/- Numbers, texts and words on the wire. -/
import Derived.Test.YtabkfgkpofjeoaaDoorKey0
import Derived.Laws.Bits64
import Derived.Laws.BitsAllLaws
set_option linter.unusedVariables false
set_option linter.unusedSimpArgs false
set_option maxRecDepth 100000
namespace Go.Proofs.YtabkfgkpofjeoaaDoor.Num0
open Go Go.Sy Go.Proofs.YtabkfgkpofjeoaaDoor.F Go.Proofs.YtabkfgkpofjeoaaDoor.Key0
def hd : Nat → Nat → List Int
  | 0, _ => []
  | k + 1, n => if n < 128 then [] else ((n % 128 + 128 : Nat) : Int) :: hd k (n / 128)
def lst : Nat → Nat → Nat
  | 0, n => n
  | k + 1, n => if n < 128 then n else lst k (n / 128)
def gr (n : Nat) : List Int := hd 9 n ++ [((lst 9 n : Nat) : Int)]
theorem lst_lt : ∀ k n, n < 128 ^ (k + 1) → lst k n < 128
  | 0, n, h => by simpa [lst] using h
  | k + 1, n, h => by
    unfold lst
    split
    · assumption
    · exact lst_lt k _ (by rw [Nat.div_lt_iff_lt_mul (by omega)]; rwa [Nat.pow_succ] at h)
theorem hd_len : ∀ k n, (hd k n).length ≤ k
  | 0, n => Nat.le_refl _
  | k + 1, n => by
    unfold hd
    split
    · simp
    · simpa using hd_len k _
theorem gr_len (n : Nat) : (gr n).length ≤ 10 := by
  unfold gr; have := hd_len 9 n; simp; omega
theorem roomy_of {a b : Nat} (h : a + b < 1073741824) : roomy a b = true := by unfold roomy; simpa using h
theorem grp_loop {α R : Type} (f : (α → Option R) → α → Option R) (st : Nat → List Int → α) (out : Nat → List Int → R)
    (h1 : ∀ n acc self, n < 128 → f self (st n acc) = some (out n acc))
    (h2 : ∀ n acc self, 128 ≤ n → n < 18446744073709551616 → acc.length + 1 < 1073741824 → f self (st n acc) = self (st (n / 128) (acc ++ [((n % 128 + 128 : Nat) : Int)]))) :
    ∀ k n acc fuel, n < 128 ^ (k + 1) → n < 18446744073709551616 → k < fuel → acc.length + k < 1073741824 → iter fuel f (st n acc) = some (out (lst k n) (acc ++ hd k n))
  | _, _, _, 0, _, _, hf, _ => absurd hf (Nat.not_lt_zero _)
  | 0, n, acc, fuel + 1, h, _, _, _ => by
    show f (iter fuel f) (st n acc) = _
    rw [h1 n acc _ (by simpa using h)]
    simp [lst, hd]
  | k + 1, n, acc, fuel + 1, h, h64, hf, hr => by
    show f (iter fuel f) (st n acc) = _
    by_cases hn : n < 128
    · rw [h1 n acc _ hn]
      simp [lst, hd, hn]
    · rw [h2 n acc _ (by omega) h64 (by omega), grp_loop f st out h1 h2 k (n / 128) _ fuel (by rw [Nat.div_lt_iff_lt_mul (by omega)]; rwa [Nat.pow_succ] at h) (by omega) (by omega) (by simp; omega)]
      simp [lst, hd, hn]
theorem orAll : ((List.range 256).all fun a => ibits .u8 1 (a : Int) 128 == ((a % 128 + 128 : Nat) : Int)) = true := by kernel_rfl
theorem or128 {a : Nat} (h : a < 256) : ibits .u8 1 (a : Int) 128 = ((a % 128 + 128 : Nat) : Int) := by
  have := orAll
  rw [List.all_eq_true] at this
  simpa using this a (List.mem_range.2 h)
theorem u8n (n : Nat) : IntKind.wrap .u8 (n : Int) = ((n % 256 : Nat) : Int) := by rw [IntKind.wrap_u8]; omega
theorem u8s {n : Nat} (h : n < 256) : IntKind.wrap .u8 (n : Int) = (n : Int) := by rw [u8n, Nat.mod_eq_of_lt h]
theorem u64s {n : Nat} (h : n < 18446744073709551616) : IntKind.wrap .u64 (n : Int) = (n : Int) := by rw [IntKind.wrap_u64]; omega
theorem lowA (n : Nat) : ibits .u8 1 (IntKind.wrap .u8 (n : Int)) 128 = ((n % 128 + 128 : Nat) : Int) := by
  rw [u8n, or128 (by omega)]
  congr 2; omega
theorem and127 {n : Nat} (h : n < 18446744073709551616) : ibits .u64 0 (n : Int) 127 = ((n % 128 : Nat) : Int) := by
  show IntKind.wrap .u64 ((BitVec.ofInt 64 (n : Int) &&& BitVec.ofInt 64 127).toNat : Int) = _
  rw [BitVec.toNat_and, ofInt_u64 n h, show (BitVec.ofInt 64 127).toNat = 2 ^ 7 - 1 from rfl, Nat.and_two_pow_sub_one_eq_mod, u64s (by omega)]
theorem lowB {n : Nat} (h : n < 18446744073709551616) : ibits .u8 1 (IntKind.wrap .u8 (ibits .u64 0 (n : Int) 127)) 128 = ((n % 128 + 128 : Nat) : Int) := by
  rw [and127 h, lowA]
  congr 2; omega
theorem shr7 (n : Nat) : ishr .u64 (n : Int) 7 = ((n / 128 : Nat) : Int) := by
  unfold ishr
  rw [show (2 : Int) ^ (min (Int.toNat 7) (IntKind.bits .u64)) = 128 from rfl]
  rw [Int.fdiv_eq_ediv_of_nonneg _ (by omega)]
  omega
/-- Zig-zag. -/
def zig (x : Int) : Nat := if 0 ≤ x then (2 * x).toNat else (-(2 * x) - 1).toNat
theorem zig_lt {x : Int} (h1 : -9223372036854775808 ≤ x) (h2 : x ≤ 9223372036854775807) : zig x < 18446744073709551616 := by
  unfold zig; split <;> omega
theorem xor_comm' (a b : Int) : ibits .u64 2 a b = ibits .u64 2 b a := by
  show IntKind.wrap .u64 ((BitVec.ofInt 64 a ^^^ BitVec.ofInt 64 b).toNat : Int) = IntKind.wrap .u64 ((BitVec.ofInt 64 b ^^^ BitVec.ofInt 64 a).toNat : Int)
  rw [BitVec.xor_comm]
theorem xor_zero' {n : Nat} (h : n < 18446744073709551616) : ibits .u64 2 (n : Int) 0 = (n : Int) := by
  show IntKind.wrap .u64 ((BitVec.ofInt 64 (n : Int) ^^^ BitVec.ofInt 64 0).toNat : Int) = _
  rw [show BitVec.ofInt 64 0 = 0#64 from rfl, BitVec.xor_zero, ofInt_u64 n h, u64s h]
theorem xor_ones {n : Nat} (h : n < 18446744073709551616) : ibits .u64 2 (n : Int) 18446744073709551615 = ((18446744073709551615 - n : Nat) : Int) := by
  show IntKind.wrap .u64 ((BitVec.ofInt 64 (n : Int) ^^^ BitVec.ofInt 64 18446744073709551615).toNat : Int) = _
  rw [show BitVec.ofInt 64 18446744073709551615 = BitVec.allOnes 64 from rfl, BitVec.xor_allOnes, BitVec.toNat_not, ofInt_u64 n h, u64s (by omega)]
theorem shl1 {x : Int} (h1 : -9223372036854775808 ≤ x) (h2 : x ≤ 9223372036854775807) : ishl .u64 (IntKind.wrap .u64 x) 1 = (((2 * x) % 18446744073709551616).toNat : Int) := by
  unfold ishl
  rw [show (2 : Int) ^ (min (Int.toNat 1) (IntKind.bits .u64)) = 2 from rfl, IntKind.wrap_u64, IntKind.wrap_u64]
  omega
theorem shr63 {x : Int} (h1 : -9223372036854775808 ≤ x) (h2 : x ≤ 9223372036854775807) : ishr .i64 x 63 = if 0 ≤ x then 0 else -1 := by
  unfold ishr
  rw [show (2 : Int) ^ (min (Int.toNat 63) (IntKind.bits .i64)) = 9223372036854775808 from rfl]
  rw [Int.fdiv_eq_ediv_of_nonneg _ (by omega)]
  split <;> omega
theorem zigW {x : Int} (h1 : -9223372036854775808 ≤ x) (h2 : x ≤ 9223372036854775807) : ibits .u64 2 (ishl .u64 (IntKind.wrap .u64 x) 1) (IntKind.wrap .u64 (ishr .i64 x 63)) = (zig x : Int) := by
  rw [shl1 h1 h2, shr63 h1 h2]
  unfold zig
  by_cases h : 0 ≤ x
  · rw [if_pos h, if_pos h, show IntKind.wrap .u64 0 = 0 from rfl, xor_zero' (by omega)]
    omega
  · rw [if_neg h, if_neg h, show IntKind.wrap .u64 (-1) = 18446744073709551615 from rfl, xor_ones (by omega)]
    omega
theorem zigN {x : Int} (h1 : -9223372036854775808 ≤ x) (h : x < 0) : ibits .u64 2 18446744073709551615 (ishl .u64 (IntKind.wrap .u64 x) 1) = (zig x : Int) := by
  rw [shl1 h1 (by omega), xor_comm', xor_ones (by omega)]
  unfold zig
  rw [if_neg (by omega)]
  omega
theorem zigP {x : Int} (h : 0 ≤ x) (h2 : x ≤ 9223372036854775807) : ishl .u64 (IntKind.wrap .u64 x) 1 = (zig x : Int) := by
  rw [shl1 (by omega) h2]
  unfold zig
  rw [if_pos h]
  omega
theorem groups_eq {x : Int} (h1 : -9223372036854775808 ≤ x) (h2 : x ≤ 9223372036854775807) : wire_groups_C (x, ()) = some (gr (zig x), ()) := by
  unfold wire_groups_C wire_groups_F
  simp only [zigW h1 h2]
  have hz := zig_lt h1 h2
  have := grp_loop (fun (self4 : ((Int × (Unit × Unit)) × (Unit × (List Int × Unit))) → Option ((Int × (Unit × Unit)) × (Unit × (List Int × Unit)))) (x3 : ((Int × (Unit × Unit)) × (Unit × (List Int × Unit)))) =>
bif decide (x3.1.1 ≥ 128) then
(bif roomy x3.2.2.1.length ([ibits .u8 1 (IntKind.wrap .u8 (x3.1.1)) 128].length) then
self4 ((ishr .u64 x3.1.1 7, (), ()), (), x3.2.2.1 ++ [ibits .u8 1 (IntKind.wrap .u8 (x3.1.1)) 128], ())
else none)
else
some ((x3.1.1, (), ()), (), x3.2.2.1, ())) (fun n acc => (((n : Int), (), ()), (), acc, ())) (fun n acc => (((n : Int), (), ()), (), acc, ())) (by
    intro n acc self h
    simp only
    rw [show decide ((n : Int) ≥ 128) = false by simp; omega]
    rfl) (by
    intro n acc self h h64 ha
    simp only [List.length_singleton]
    rw [show decide ((n : Int) ≥ 128) = true by simp; omega, roomy_of ha, lowA, shr7]
    rfl) 9 (zig x) [] 100 (by omega) hz (by omega) (by simp)
  rw [this, Option.bind_some]
  simp only [List.length_singleton, List.nil_append]
  have hl := hd_len 9 (zig x)
  rw [roomy_of (by omega), u8s (by have := lst_lt 9 (zig x) (by omega); omega)]
  rfl
theorem own_eq {a b : List Int} (h : a.length + b.length < 1073741824) : wire_own_C (a, b, ()) = some (a ++ b, ()) := by
  unfold wire_own_C wire_own_F
  simp only
  rw [wrap_id (by omega) (by omega), show decide (0 ≤ (a.length : Int) + (b.length : Int)) = true by simp; omega, show decide ((a.length : Int) + (b.length : Int) < 1073741824) = true by simp; omega]
  simp only [List.nil_append]
  rw [roomy_of (by omega), roomy_of (by omega)]
  rfl
theorem putNumber_eq {a : List Int} {x : Int} (h1 : -9223372036854775808 ≤ x) (h2 : x ≤ 9223372036854775807) (ha : a.length + 10 < 1073741824) : wire_PutNumber_C (a, x, ()) = some (a ++ gr (zig x), ()) := by
  unfold wire_PutNumber_C wire_PutNumber_F
  simp only
  have := gr_len (zig x)
  rw [groups_eq h1 h2, Option.bind_some]
  simp only
  rw [own_eq (by omega)]
  rfl
theorem bytes_len (s : ByteArray) : (bytesOf s).length = s.size := by
  unfold bytesOf; simp
theorem putText_eq {a : List Int} {s : ByteArray} (ha : a.length + s.size + 10 < 1073741824) : wire_PutText_C (a, s, ()) = some (a ++ (gr (zig (s.size : Int)) ++ bytesOf s), ()) := by
  unfold wire_PutText_C wire_PutText_F
  simp only
  have := gr_len (zig (s.size : Int))
  rw [groups_eq (by omega) (by omega), Option.bind_some]
  simp only
  rw [roomy_of (by rw [bytes_len]; omega), own_eq (by rw [List.length_append, bytes_len]; omega)]
  rfl
theorem rputNumber_eq {a : List Int} {x : Int} (h1 : -9223372036854775808 ≤ x) (h2 : x ≤ 9223372036854775807) (ha : a.length + 10 < 1073741824) : ref4_PutNumber_C (a, x, ()) = some (a ++ gr (zig x), ()) := by
  unfold ref4_PutNumber_C ref4_PutNumber_F
  simp only
  rw [roomy_of (by omega)]
  simp only [cond_true]
  have hz := zig_lt h1 h2
  have := grp_loop (fun (self4 : ((Unit × (Int × Unit)) × (Unit × (List Int × Unit))) → Option ((Unit × (Int × Unit)) × (Unit × (List Int × Unit)))) (x3 : ((Unit × (Int × Unit)) × (Unit × (List Int × Unit)))) =>
bif decide (x3.1.2.1 > 127) then
(bif roomy x3.2.2.1.length ([ibits .u8 1 (IntKind.wrap .u8 (ibits .u64 0 x3.1.2.1 127)) 128].length) then
self4 (((), ishr .u64 x3.1.2.1 7, ()), (), x3.2.2.1 ++ [ibits .u8 1 (IntKind.wrap .u8 (ibits .u64 0 x3.1.2.1 127)) 128], ())
else none)
else
some (((), x3.1.2.1, ()), (), x3.2.2.1, ())) (fun n acc => (((), (n : Int), ()), (), acc, ())) (fun n acc => (((), (n : Int), ()), (), acc, ())) (by
    intro n acc self h
    simp only
    rw [show decide ((n : Int) > 127) = false by simp; omega]
    rfl) (by
    intro n acc self h h64 ha
    simp only [List.length_singleton]
    rw [show decide ((n : Int) > 127) = true by simp; omega, roomy_of ha, lowB h64, shr7]
    rfl) 9 (zig x) a 100 (by omega) hz (by omega) (by omega)
  have hl := hd_len 9 (zig x)
  have hw : IntKind.wrap .u8 ((lst 9 (zig x) : Nat) : Int) = ((lst 9 (zig x) : Nat) : Int) := u8s (by have := lst_lt 9 (zig x) (by omega); omega)
  by_cases hx : x < 0
  · rw [decide_eq_true hx, zigN h1 hx]
    simp only [cond_true]
    rw [this, Option.bind_some]
    simp only [List.length_singleton]
    rw [roomy_of (by rw [List.length_append]; omega), hw, cond_true, List.append_assoc]
    rfl
  · rw [decide_eq_false hx, zigP (by omega) h2]
    simp only [cond_false]
    rw [this, Option.bind_some]
    simp only [List.length_singleton]
    rw [roomy_of (by rw [List.length_append]; omega), hw, cond_true, List.append_assoc]
    rfl
theorem rputText_eq {a : List Int} {s : ByteArray} (ha : a.length + s.size + 10 < 1073741824) : ref4_PutText_C (a, s, ()) = some (a ++ (gr (zig (s.size : Int)) ++ bytesOf s), ()) := by
  unfold ref4_PutText_C ref4_PutText_F
  simp only
  have := gr_len (zig (s.size : Int))
  rw [rputNumber_eq (by omega) (by omega) (by omega), Option.bind_some]
  simp only
  rw [roomy_of (by rw [bytes_len, List.length_append]; omega), cond_true, List.append_assoc]
def wb (w s : Int) : Int := IntKind.wrap .u8 (ishr .u64 w s)
def word (w : Int) : List Int := [wb w 56, wb w 48, wb w 40, wb w 32, wb w 24, wb w 16, wb w 8, wb w 0]
theorem putWord0 (a : List Int) (w : Int) : wire_PutWord_C (a, w, ()) = Option.bind (wire_own_C (a, word w, ())) fun r5 => some (r5.1, ()) := by kernel_rfl
theorem putWord_eq {a : List Int} (w : Int) (ha : a.length + 8 < 1073741824) : wire_PutWord_C (a, w, ()) = some (a ++ word w, ()) := by
  rw [putWord0, own_eq (by simp [word]; omega)]
  rfl
theorem rputWord_eq {a : List Int} (w : Int) (ha : a.length + 8 < 1073741824) : ref4_PutWord_C (a, w, ()) = some (a ++ word w, ()) := by
  unfold ref4_PutWord_C ref4_PutWord_F
  simp only
  rw [roomy_of (by omega)]
  simp only [cond_true]
  rw [iter_up0 (x0 := (((), w, 56, ()), (), a, ())) (fun i => (((), w, 56 - 8 * (i : Int), ()), (), a ++ (word w).take i, ())) (fun i => some (((), ()), (), a ++ word w, ())) 8 (by simp) (by omega)]
  · rfl
  · intro i hi self hself
    simp only [List.length_singleton]
    by_cases hlt : i < 8
    · rw [show decide (56 - 8 * (i : Int) ≥ 0) = true by simp; omega, show IntKind.wrap .u64 (56 - 8 * (i : Int)) = 56 - 8 * (i : Int) by rw [IntKind.wrap_u64]; omega, show decide (0 ≤ 56 - 8 * (i : Int)) = true by simp; omega]
      rw [roomy_of (by rw [List.length_append, List.length_take]; omega), wrap_id (by omega) (by omega), ← hself hlt]
      simp only [cond_true, List.append_assoc]
      have e : (word w).take (i + 1) = (word w).take i ++ [IntKind.wrap .u8 (ishr .u64 w (56 - 8 * (i : Int)))] := by
        rcases (by omega : i = 0 ∨ i = 1 ∨ i = 2 ∨ i = 3 ∨ i = 4 ∨ i = 5 ∨ i = 6 ∨ i = 7) with rfl | rfl | rfl | rfl | rfl | rfl | rfl | rfl <;> rfl
      rw [e, show 56 - 8 * (i : Int) - 8 = 56 - 8 * ((i + 1 : Nat) : Int) by omega]
    · have : i = 8 := by omega
      subst this
      rfl
end Go.Proofs.YtabkfgkpofjeoaaDoor.Num0
