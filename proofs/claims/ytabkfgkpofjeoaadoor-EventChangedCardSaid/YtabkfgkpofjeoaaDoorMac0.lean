/- SipHash: the program's Mac is the document's. -/
import Derived.Test.YtabkfgkpofjeoaaDoorKey0
import Derived.Laws.Bits64
set_option linter.unusedVariables false
set_option linter.unusedSimpArgs false
set_option maxRecDepth 100000
namespace Go.Proofs.YtabkfgkpofjeoaaDoor.Mac0
open Go Go.Sy Go.Proofs.YtabkfgkpofjeoaaDoor.F Go.Proofs.YtabkfgkpofjeoaaDoor.Key0
abbrev S4 : Type := Int × Int × Int × Int
abbrev xo (a b : Int) : Int := ibits .u64 2 a b
abbrev wu (a : Int) : Int := IntKind.wrap .u64 a
def rot (x n : Int) : Int := ibits .u64 1 (ishl .u64 x n) (ishr .u64 x (64 - n))
theorem drot13 (x : Int) : math_bits_RotateLeft64_C (x, 13, ()) = some (rot x 13, ()) := by kernel_rfl
theorem drot16 (x : Int) : math_bits_RotateLeft64_C (x, 16, ()) = some (rot x 16, ()) := by kernel_rfl
theorem drot17 (x : Int) : math_bits_RotateLeft64_C (x, 17, ()) = some (rot x 17, ()) := by kernel_rfl
theorem drot21 (x : Int) : math_bits_RotateLeft64_C (x, 21, ()) = some (rot x 21, ()) := by kernel_rfl
theorem drot32 (x : Int) : math_bits_RotateLeft64_C (x, 32, ()) = some (rot x 32, ()) := by kernel_rfl
theorem rrot13 (x : Int) : ref2_rotate_C (x, 13, ()) = some (rot x 13, ()) := by kernel_rfl
theorem rrot16 (x : Int) : ref2_rotate_C (x, 16, ()) = some (rot x 16, ()) := by kernel_rfl
theorem rrot17 (x : Int) : ref2_rotate_C (x, 17, ()) = some (rot x 17, ()) := by kernel_rfl
theorem rrot21 (x : Int) : ref2_rotate_C (x, 21, ()) = some (rot x 21, ()) := by kernel_rfl
theorem rrot32 (x : Int) : ref2_rotate_C (x, 32, ()) = some (rot x 32, ()) := by kernel_rfl
/-- One round. -/
def rnd (s : S4) : S4 :=
  (wu (rot (wu (s.1 + s.2.1)) 32 + xo (rot s.2.2.2 16) (wu (s.2.2.1 + s.2.2.2))),
   xo (rot (xo (rot s.2.1 13) (wu (s.1 + s.2.1))) 17) (wu (wu (s.2.2.1 + s.2.2.2) + xo (rot s.2.1 13) (wu (s.1 + s.2.1)))),
   rot (wu (wu (s.2.2.1 + s.2.2.2) + xo (rot s.2.1 13) (wu (s.1 + s.2.1)))) 32,
   xo (rot (xo (rot s.2.2.2 16) (wu (s.2.2.1 + s.2.2.2))) 21) (wu (rot (wu (s.1 + s.2.1)) 32 + xo (rot s.2.2.2 16) (wu (s.2.2.1 + s.2.2.2)))))
def rnds : Nat → S4 → S4
  | 0, s => s
  | n + 1, s => rnd (rnds n s)
def ls (s : S4) : List Int := [s.1, s.2.1, s.2.2.1, s.2.2.2]
theorem drounds (n : Nat) (hn : n ≤ 50) (s : S4) : digest_state_rounds_C (ls s, (n : Int), ()) = some ((), ls (rnds n s), ()) := by
  unfold digest_state_rounds_C digest_state_rounds_F
  simp only
  rw [iter_up0 (x0 := (((), (n : Int), 0, ()), (ls s, ()), ())) (fun i => (((), (n : Int), (i : Int), ()), (ls (rnds i s), ()), ())) (fun i => some ((), (ls (rnds n s), ()), ())) n rfl (by omega)]
  · rfl
  · intro i hi self hself
    simp only
    by_cases hlt : i < n
    · have e1 : decide ((i : Int) < (n : Int)) = true := by simp; omega
      rw [e1, wrap_id (n := (i : Int) + 1) (by omega) (by omega)]
      rw [← hself hlt]
      simp only [drot13, drot16, drot17, drot21, drot32, Option.bind_some, cond_true]
      rfl
    · have e1 : decide ((i : Int) < (n : Int)) = false := by simp; omega
      have : i = n := by omega
      subst this
      rw [e1]; rfl
theorem rrounds (n : Nat) (hn : n ≤ 50) (s : S4) : ref2_state_rounds_C ((s.1, s.2.1, s.2.2.1, s.2.2.2, ()), (n : Int), ()) = some (((rnds n s).1, (rnds n s).2.1, (rnds n s).2.2.1, (rnds n s).2.2.2, ()), ()) := by
  unfold ref2_state_rounds_C ref2_state_rounds_F
  simp only
  rw [iter_up0 (x0 := (((n : Int), (), (), 0, ()), ((s.1, s.2.1, s.2.2.1, s.2.2.2, ()), (0, 0, 0, 0, ()), ()), ())) (fun i => (((n : Int), (), (), (i : Int), ()), (((rnds i s).1, (rnds i s).2.1, (rnds i s).2.2.1, (rnds i s).2.2.2, ()), (0, 0, 0, 0, ()), ()), ())) (fun i => some (((), (), ()), (((rnds n s).1, (rnds n s).2.1, (rnds n s).2.2.1, (rnds n s).2.2.2, ()), (0, 0, 0, 0, ()), ()), ())) n rfl (by omega)]
  · rfl
  · intro i hi self hself
    simp only
    by_cases hlt : i < n
    · have e1 : decide ((i : Int) < (n : Int)) = true := by simp; omega
      rw [e1, wrap_id (n := (i : Int) + 1) (by omega) (by omega)]
      rw [← hself hlt]
      simp only [rrot13, rrot16, rrot17, rrot21, rrot32, Option.bind_some, cond_true]
      rfl
    · have e1 : decide ((i : Int) < (n : Int)) = false := by simp; omega
      have : i = n := by omega
      subst this
      rw [e1]; rfl
theorem dr2 (s : S4) : digest_state_rounds_C (ls s, 2, ()) = some ((), ls (rnds 2 s), ()) := drounds 2 (by omega) s
theorem dr4 (s : S4) : digest_state_rounds_C (ls s, 4, ()) = some ((), ls (rnds 4 s), ()) := drounds 4 (by omega) s
theorem rr2 (a b c d : Int) : ref2_state_rounds_C ((a, b, c, d, ()), 2, ()) = some (((rnds 2 (a, b, c, d)).1, (rnds 2 (a, b, c, d)).2.1, (rnds 2 (a, b, c, d)).2.2.1, (rnds 2 (a, b, c, d)).2.2.2, ()), ()) := rrounds 2 (by omega) (a, b, c, d)
theorem rr4 (a b c d : Int) : ref2_state_rounds_C ((a, b, c, d, ()), 4, ()) = some (((rnds 4 (a, b, c, d)).1, (rnds 4 (a, b, c, d)).2.1, (rnds 4 (a, b, c, d)).2.2.1, (rnds 4 (a, b, c, d)).2.2.2, ()), ()) := rrounds 4 (by omega) (a, b, c, d)
def wordS (m : Int) (s : S4) : S4 :=
  (xo (rnds 2 (s.1, s.2.1, s.2.2.1, xo s.2.2.2 m)).1 m, (rnds 2 (s.1, s.2.1, s.2.2.1, xo s.2.2.2 m)).2.1, (rnds 2 (s.1, s.2.1, s.2.2.1, xo s.2.2.2 m)).2.2.1, (rnds 2 (s.1, s.2.1, s.2.2.1, xo s.2.2.2 m)).2.2.2)
theorem dword (m : Int) (s : S4) : digest_state_word_C (ls s, m, ()) = some ((), ls (wordS m s), ()) := by
  unfold digest_state_word_C digest_state_word_F
  simp only
  rw [show (ls s).set 3 (ibits .u64 2 ((ls s).getD 3 0) m) = ls (s.1, s.2.1, s.2.2.1, xo s.2.2.2 m) from rfl]
  rw [dr2]
  rfl
/-- k bytes of the list, from place i on, or-ed onto n0. -/
def bytesIn (l : List Int) (i : Nat) (n0 : Int) : Nat → Int
  | 0 => n0
  | k + 1 => ibits .u64 1 (bytesIn l i n0 k) (ishl .u64 (wu (l.getD (i + k) 0)) (8 * (k : Int)))
theorem or_eq (a b : Int) : ibits .u64 1 a b = ((BitVec.ofInt 64 a ||| BitVec.ofInt 64 b).toNat : Int) := by
  show IntKind.wrap .u64 ((BitVec.ofInt 64 a ||| BitVec.ofInt 64 b).toNat : Int) = _
  rw [IntKind.wrap_u64]
  have := (BitVec.ofInt 64 a ||| BitVec.ofInt 64 b).isLt
  omega
theorem ofInt_or (a b : Int) : BitVec.ofInt 64 (ibits .u64 1 a b) = BitVec.ofInt 64 a ||| BitVec.ofInt 64 b := by
  rw [or_eq]
  apply BitVec.eq_of_toNat_eq
  rw [BitVec.toNat_ofInt]
  have := (BitVec.ofInt 64 a ||| BitVec.ofInt 64 b).isLt
  omega
theorem or_swap (a b c : Int) : ibits .u64 1 (ibits .u64 1 a b) c = ibits .u64 1 (ibits .u64 1 a c) b := by
  rw [or_eq, or_eq (ibits .u64 1 a c), ofInt_or, ofInt_or, BitVec.or_assoc, BitVec.or_comm (BitVec.ofInt 64 b), ← BitVec.or_assoc]
theorem or_zero {n : Int} (h0 : 0 ≤ n) (h1 : n < 18446744073709551616) : ibits .u64 1 0 n = n := by
  rw [or_eq, show BitVec.ofInt 64 0 = 0#64 from rfl, BitVec.zero_or, BitVec.toNat_ofInt]
  omega
theorem bytes_or (l : List Int) (i : Nat) {n0 : Int} (h0 : 0 ≤ n0) (h1 : n0 < 18446744073709551616) : ∀ k, ibits .u64 1 (bytesIn l i 0 k) n0 = bytesIn l i n0 k
  | 0 => or_zero h0 h1
  | k + 1 => by
    show ibits .u64 1 (ibits .u64 1 _ _) n0 = ibits .u64 1 _ _
    rw [or_swap, bytes_or l i h0 h1 k]
def lenW (l : List Int) : Int := ishl .u64 (wu (l.length : Int)) 56
theorem lenW_bd (l : List Int) : 0 ≤ lenW l ∧ lenW l < 18446744073709551616 := by
  unfold lenW ishl
  rw [IntKind.wrap_u64]
  omega
theorem lenW_eq (l : List Int) : ishl .u64 (wu (Int.tmod (l.length : Int) 256)) 56 = lenW l := by
  unfold lenW ishl wu
  rw [show Int.tmod (l.length : Int) 256 = ((l.length % 256 : Nat) : Int) from rfl]
  rw [IntKind.wrap_u64, IntKind.wrap_u64, IntKind.wrap_u64, IntKind.wrap_u64]
  rw [show (2 : Int) ^ (min (Int.toNat 56) (IntKind.bits .u64)) = 72057594037927936 from rfl]
  omega
def init (k0 k1 : Int) : S4 := (xo k0 8317987319222330741, xo k1 7237128888997146477, xo k0 7816392313619706465, xo k1 8387220255154660723)
def blocks (l : List Int) (s : S4) : Nat → S4
  | 0 => s
  | j + 1 => wordS (bytesIn l (8 * j) 0 8) (blocks l s j)
def fin4 (s : S4) : Int :=
  let t := rnds 4 (s.1, s.2.1, xo s.2.2.1 255, s.2.2.2)
  xo (xo (xo t.1 t.2.1) t.2.2.1) t.2.2.2
def sip (k0 k1 : Int) (l : List Int) : Int := fin4 (wordS (bytesIn l (8 * (l.length / 8)) (lenW l) (l.length % 8)) (blocks l (init k0 k1) (l.length / 8)))
theorem dsum (k0 k1 : Int) (l : List Int) (hl : l.length < 4611686018427387904) : digest_Sum_C (k0, k1, l, ()) = some (sip k0 k1 l, ()) := by
  unfold digest_Sum_C digest_Sum_F
  simp only
  rw [show ((((List.replicate 4 (0 : Int)).set 0 (ibits .u64 2 k0 8317987319222330741)).set 1 (ibits .u64 2 k1 7237128888997146477)).set 2 (ibits .u64 2 k0 7816392313619706465)).set 3 (ibits .u64 2 k1 8387220255154660723) = ls (init k0 k1) from rfl]
  rw [iter_up0 (x0 := ((l, (), ishl .u64 (IntKind.wrap .u64 (l.length : Int)) 56, 0, ()), (ls (init k0 k1), ()), ())) (fun i => ((l, (), lenW l, ((8 * i : Nat) : Int), ()), (ls (blocks l (init k0 k1) i), ()), ())) (fun i => some ((l, (), lenW l, ()), (ls (blocks l (init k0 k1) (l.length / 8)), ()), ())) (l.length / 8) rfl (by omega)]
  · rw [Option.bind_some]
    simp only
    rw [show Int.tmod (l.length : Int) 8 = ((l.length % 8 : Nat) : Int) from rfl]
    rw [iter_up0 (x0 := ((l, (), lenW l, ((l.length % 8 : Nat) : Int), 0, ()), (ls (blocks l (init k0 k1) (l.length / 8)), ()), ())) (fun i => ((l, (), bytesIn l (8 * (l.length / 8)) (lenW l) i, ((l.length % 8 : Nat) : Int), (i : Int), ()), (ls (blocks l (init k0 k1) (l.length / 8)), ()), ())) (fun i => some (((), bytesIn l (8 * (l.length / 8)) (lenW l) (l.length % 8), ()), (ls (blocks l (init k0 k1) (l.length / 8)), ()), ())) (l.length % 8) rfl (by omega)]
    · rw [Option.bind_some]
      simp only
      rw [dword, Option.bind_some]
      simp only
      rw [show ∀ s : S4, (ls s).set 2 (ibits .u64 2 ((ls s).getD 2 0) 255) = ls (s.1, s.2.1, xo s.2.2.1 255, s.2.2.2) from fun _ => rfl]
      rw [dr4, Option.bind_some]
      rfl
    · intro i hi self hself
      simp only
      by_cases hlt : i < l.length % 8
      · have e1 : decide ((i : Int) < ((l.length % 8 : Nat) : Int)) = true := by simp; omega
        rw [e1, show Int.tmod (l.length : Int) 8 = ((l.length % 8 : Nat) : Int) from rfl, wrap_id (n := (l.length : Int) - ((l.length % 8 : Nat) : Int)) (by omega) (by omega)]
        rw [show (l.length : Int) - ((l.length % 8 : Nat) : Int) = ((8 * (l.length / 8) : Nat) : Int) by omega]
        rw [wrap_id (n := ((8 * (l.length / 8) : Nat) : Int) + (i : Int)) (by omega) (by omega), wrap_id (n := 8 * (i : Int)) (by omega) (by omega), wrap_id (n := (i : Int) + 1) (by omega) (by omega)]
        rw [show ((8 * (l.length / 8) : Nat) : Int) + (i : Int) = ((8 * (l.length / 8) + i : Nat) : Int) by omega]
        rw [inb_true (by omega : 8 * (l.length / 8) + i < l.length), Int.toNat_natCast, show decide (0 ≤ 8 * (i : Int)) = true by simp; omega]
        rw [← hself hlt]
        rfl
      · have e1 : decide ((i : Int) < ((l.length % 8 : Nat) : Int)) = false := by simp; omega
        have : i = l.length % 8 := by omega
        rw [e1, this]; rfl
  · intro j hj self hself
    simp only
    by_cases hlt : j < l.length / 8
    · rw [wrap_id (n := ((8 * j : Nat) : Int) + 8) (by omega) (by omega)]
      have e1 : decide (((8 * j : Nat) : Int) + 8 ≤ (l.length : Int)) = true := by simp; omega
      rw [e1]
      simp only [cond_true]
      rw [iter_up0 (x0 := ((l, (), lenW l, ((8 * j : Nat) : Int), 0, 0, ()), (ls (blocks l (init k0 k1) j), ()), ())) (fun i => ((l, (), lenW l, ((8 * j : Nat) : Int), bytesIn l (8 * j) 0 i, (i : Int), ()), (ls (blocks l (init k0 k1) j), ()), ())) (fun i => some ((l, (), lenW l, ((8 * j : Nat) : Int), bytesIn l (8 * j) 0 8, ()), (ls (blocks l (init k0 k1) j), ()), ())) 8 rfl (by omega)]
      · rw [Option.bind_some]
        simp only
        rw [dword, Option.bind_some]
        simp only
        rw [← hself hlt]
        rw [wrap_id (n := ((8 * j : Nat) : Int) + 8) (by omega) (by omega)]
        rw [show ((8 * j : Nat) : Int) + 8 = ((8 * (j + 1) : Nat) : Int) by omega]
        rfl
      · intro i hi self' hself'
        simp only
        by_cases hlt' : i < 8
        · have e2 : decide ((i : Int) < 8) = true := by simp; omega
          rw [e2]
          rw [wrap_id (n := ((8 * j : Nat) : Int) + (i : Int)) (by omega) (by omega), wrap_id (n := 8 * (i : Int)) (by omega) (by omega), wrap_id (n := (i : Int) + 1) (by omega) (by omega)]
          rw [show ((8 * j : Nat) : Int) + (i : Int) = ((8 * j + i : Nat) : Int) by omega]
          rw [inb_true (by omega : 8 * j + i < l.length), Int.toNat_natCast, show decide (0 ≤ 8 * (i : Int)) = true by simp; omega]
          rw [← hself' hlt']
          rfl
        · have e2 : decide ((i : Int) < 8) = false := by simp; omega
          have : i = 8 := by omega
          rw [e2, this]; rfl
    · rw [wrap_id (n := ((8 * j : Nat) : Int) + 8) (by omega) (by omega)]
      have e1 : decide (((8 * j : Nat) : Int) + 8 ≤ (l.length : Int)) = false := by simp; omega
      have : j = l.length / 8 := by omega
      rw [e1, this]; rfl
theorem fin4_eq (s : S4) : fin4 s = ibits .u64 2 (ibits .u64 2 (ibits .u64 2 (rnds 4 (s.1, s.2.1, ibits .u64 2 s.2.2.1 255, s.2.2.2)).1 (rnds 4 (s.1, s.2.1, ibits .u64 2 s.2.2.1 255, s.2.2.2)).2.1) (rnds 4 (s.1, s.2.1, ibits .u64 2 s.2.2.1 255, s.2.2.2)).2.2.1) (rnds 4 (s.1, s.2.1, ibits .u64 2 s.2.2.1 255, s.2.2.2)).2.2.2 := rfl
abbrev tp (s : S4) : Int × Int × Int × Int × Unit := (s.1, s.2.1, s.2.2.1, s.2.2.2, ())
theorem tpG (a b c d : Int) : tp (a, b, c, d) = (a, b, c, d, ()) := rfl
theorem tpW (m : Int) (s : S4) : tp (wordS m s) = (ibits .u64 2 (rnds 2 (s.1, s.2.1, s.2.2.1, ibits .u64 2 s.2.2.2 m)).1 m, (rnds 2 (s.1, s.2.1, s.2.2.1, ibits .u64 2 s.2.2.2 m)).2.1, (rnds 2 (s.1, s.2.1, s.2.2.1, ibits .u64 2 s.2.2.2 m)).2.2.1, (rnds 2 (s.1, s.2.1, s.2.2.1, ibits .u64 2 s.2.2.2 m)).2.2.2, ()) := tpG _ _ _ _
theorem rsum (k0 k1 : Int) (l : List Int) (hl : l.length < 4611686018427387904) : ref2_Sum_C (k0, k1, l, ()) = some (sip k0 k1 l, ()) := by
  unfold ref2_Sum_C ref2_Sum_F
  simp only
  have hT : IntKind.wrap .i64 (Int.tdiv (l.length : Int) 8) = ((l.length / 8 : Nat) : Int) := by
    rw [show Int.tdiv (l.length : Int) 8 = ((l.length / 8 : Nat) : Int) from rfl]
    rw [wrap_id (n := ((l.length / 8 : Nat) : Int)) (by omega) (by omega)]
  rw [show (ibits .u64 2 k0 8317987319222330741, ibits .u64 2 k1 7237128888997146477, ibits .u64 2 k0 7816392313619706465, ibits .u64 2 k1 8387220255154660723, ()) = tp (init k0 k1) from rfl]
  let st : Nat → S4 := fun i => if i ≤ l.length / 8 then blocks l (init k0 k1) i else wordS (bytesIn l (8 * (l.length / 8)) (lenW l) (l.length % 8)) (blocks l (init k0 k1) (l.length / 8))
  rw [iter_up0 (x0 := ((l, (), 0, ()), (tp (init k0 k1), ()), ())) (fun i => ((l, (), (i : Int), ()), (tp (st i), ()), ())) (fun i => some (((), ()), (tp (st (l.length / 8 + 1)), ()), ())) (l.length / 8 + 1) (by show _ = _; simp only [st]; rw [if_pos (Nat.zero_le _)]; rfl) (by omega)]
  · rw [Option.bind_some]
    simp only
    have e : st (l.length / 8 + 1) = wordS (bytesIn l (8 * (l.length / 8)) (lenW l) (l.length % 8)) (blocks l (init k0 k1) (l.length / 8)) := if_neg (by omega)
    rw [e]
    rw [rr4]
    simp only [Option.bind_some]
    rw [sip, fin4_eq]
  · intro j hj self hself
    simp only [hT]
    by_cases hle : j ≤ l.length / 8
    · have e1 : decide ((j : Int) ≤ ((l.length / 8 : Nat) : Int)) = true := by simp; omega
      rw [e1]
      simp only [cond_true]
      have ej : st j = blocks l (init k0 k1) j := if_pos hle
      rw [ej]
      let t : Nat := min 8 (l.length - 8 * j)
      have ht : t ≤ 8 ∧ 8 * j + t ≤ l.length ∧ (t < 8 → 8 * j + t = l.length) := by simp only [t]; omega
      rw [iter_up0 (x0 := ((l, (), (j : Int), 0, 0, ()), (tp (blocks l (init k0 k1) j), ()), ())) (fun i => ((l, (), (j : Int), bytesIn l (8 * j) 0 i, (i : Int), ()), (tp (blocks l (init k0 k1) j), ()), ())) (fun i => some ((l, (), (j : Int), bytesIn l (8 * j) 0 t, ()), (tp (blocks l (init k0 k1) j), ()), ())) t rfl (by omega)]
      · rw [Option.bind_some]
        simp only [hT]
        by_cases hlast : j = l.length / 8
        · have e2 : ((j : Int) == ((l.length / 8 : Nat) : Int)) = true := by rw [hlast]; simp
          rw [e2]
          simp only [cond_true]
          have et : t = l.length % 8 := by simp only [t]; omega
          rw [lenW_eq, bytes_or l (8 * j) (lenW_bd l).1 (lenW_bd l).2, et]
          rw [rr2]
          simp only [Option.bind_some]
          rw [wrap_id (n := (j : Int) + 1) (by omega) (by omega)]
          rw [← hself (by omega)]
          have e3 : st (j + 1) = wordS (bytesIn l (8 * (l.length / 8)) (lenW l) (l.length % 8)) (blocks l (init k0 k1) (l.length / 8)) := if_neg (by omega)
          rw [e3, ← hlast, tpW]
          rfl
        · have e2 : ((j : Int) == ((l.length / 8 : Nat) : Int)) = false := by simp; omega
          rw [e2]
          simp only [cond_false]
          have et : t = 8 := by simp only [t]; omega
          rw [et]
          rw [rr2]
          simp only [Option.bind_some]
          rw [wrap_id (n := (j : Int) + 1) (by omega) (by omega)]
          rw [← hself (by omega)]
          have e3 : st (j + 1) = blocks l (init k0 k1) (j + 1) := if_pos (by omega)
          rw [e3, show blocks l (init k0 k1) (j + 1) = wordS (bytesIn l (8 * j) 0 8) (blocks l (init k0 k1) j) from rfl, tpW]
          rfl
      · intro i hi self' hself'
        simp only
        rw [wrap_id (n := 8 * (j : Int)) (by omega) (by omega), wrap_id (n := 8 * (j : Int) + (i : Int)) (by omega) (by omega), wrap_id (n := 8 * (i : Int)) (by omega) (by omega), wrap_id (n := (i : Int) + 1) (by omega) (by omega)]
        by_cases hlt' : i < t
        · have e2 : decide ((i : Int) < 8) = true := by simp; omega
          have e3 : decide (8 * (j : Int) + (i : Int) < (l.length : Int)) = true := by simp; omega
          rw [e2, e3]
          rw [show 8 * (j : Int) + (i : Int) = ((8 * j + i : Nat) : Int) by omega]
          rw [inb_true (by omega : 8 * j + i < l.length), Int.toNat_natCast]
          rw [show IntKind.wrap .u64 (8 * (i : Int)) = 8 * (i : Int) by rw [IntKind.wrap_u64]; omega, show decide (0 ≤ 8 * (i : Int)) = true by simp; omega]
          rw [← hself' hlt']
          rfl
        · have e2 : (bif decide ((i : Int) < 8) then decide (8 * (j : Int) + (i : Int) < (l.length : Int)) else false) = false := by
            by_cases h8 : i < 8
            · rw [show decide ((i : Int) < 8) = true by simp; omega, show decide (8 * (j : Int) + (i : Int) < (l.length : Int)) = false by simp; omega]; rfl
            · rw [show decide ((i : Int) < 8) = false by simp; omega]; rfl
          have : i = t := by omega
          rw [e2, this]; rfl
    · have e1 : decide ((j : Int) ≤ ((l.length / 8 : Nat) : Int)) = false := by simp; omega
      have : j = l.length / 8 + 1 := by omega
      rw [e1, this]; rfl
def lenB (l : List Int) (s : Int) : Int := IntKind.wrap .u8 (ishr .u64 (wu (l.length : Int)) s)
def frame (l : List Int) : List Int := [lenB l 56, lenB l 48, lenB l 40, lenB l 32, lenB l 24, lenB l 16, lenB l 8, lenB l 0] ++ l
theorem dframe0 (l : List Int) : digest_Frame_C ([l], ()) = Option.bind (α := ((Unit × Unit) × (Unit × (List Int × Unit)))) (bif roomy 8 l.length then some (((), ()), (), frame l, ()) else none) fun s1 => some (s1.2.2.1, ()) := by kernel_rfl
theorem rframe0 (l : List Int) : ref2_Frame_C ([l], ()) = Option.bind (α := ((Unit × Unit) × (Unit × (List Int × Unit)))) (bif roomy 8 l.length then some (((), ()), (), frame l, ()) else none) fun s1 => some (s1.2.2.1, ()) := by kernel_rfl
theorem roomy8 {l : List Int} (h : l.length < 1000000000) : roomy 8 l.length = true := by unfold roomy; simp; omega
def mac (k : Int) (l : List Int) : Int := sip k (IntKind.wrap .u64 (100 + 1)) (frame l)
theorem dmac (k : Int) (l : List Int) (h : l.length < 1000000000) : digest_Mac_C (k, 100, [l], ()) = some (mac k l, ()) := by
  unfold digest_Mac_C digest_Mac_F
  simp only
  rw [dframe0, roomy8 h]
  simp only [cond_true, Option.bind_some]
  rw [dsum _ _ _ (by unfold frame; simp; omega)]
  rfl
theorem rmac (k : Int) (l : List Int) (h : l.length < 1000000000) : ref2_Mac_C (k, 100, [l], ()) = some (mac k l, ()) := by
  unfold ref2_Mac_C ref2_Mac_F
  simp only
  rw [rframe0, roomy8 h]
  simp only [cond_true, Option.bind_some]
  rw [rsum _ _ _ (by unfold frame; simp; omega)]
  rfl
end Go.Proofs.YtabkfgkpofjeoaaDoor.Mac0
