/- The plain laws of digest: frames and hash values of the program and of the reference, for every list of fields below 2^47 bytes. -/
import Derived.Test.YtedpmohnnagamaaPrint7
import Derived.Test.YtedpmohnnagamaaPrint5
import Derived.Test.YtedpmohnnagamaaPrint4
import Derived.Laws.BitsLemmas
namespace Go.Proofs.Ytedpmohnnagamaa.PureDig
open Go.RowKit Go.Proofs.Ytedpmohnnagamaa.Print Go.Proofs.YtedpmohnnagamaaW.PrintWords Go.Proofs.YtedpmohnnagamaaW.PrintLast Go.Proofs.YtedpmohnnagamaaW.PrintMore
set_option linter.unusedVariables false

/-! ### awake -/
theorem awake_ev : Ev (fun k => flagstonelaw2_awake.f k) true := Ev.of (fun k => flagstonelaw2_awake.mono k) (k := 40) (by kernel_rfl)

/-! ### frames -/
def be1 (n x6 : Int) : Int := (shr .u64 (IntKind.u64.wrap n) (8 * x6)) % 256
def be8 (n : Int) : List Int := [be1 n 7, be1 n 6, be1 n 5, be1 n 4, be1 n 3, be1 n 2, be1 n 1, be1 n 0]
def frameOf (l : List (List Int)) : List Int := l.flatMap fun f => be8 (f.length : Int) ++ f
theorem w64 {n : Int} (h0 : -9223372036854775808 ≤ n) (h1 : n < 9223372036854775808) : wrap64 n = n := by unfold wrap64; omega
theorem u64w {n : Int} (h0 : 0 ≤ n) (h1 : n < 18446744073709551616) : IntKind.u64.wrap n = n := by
  simp only [IntKind.wrap, IntKind.bits, IntKind.signed, Bool.false_and, Bool.false_eq_true, if_false]; omega
theorem l1_step {x3 x5 : List Int} {x7 : List (List Int)} {x8 x9 x6 : Int} {r : List Int} (h0 : 0 ≤ x6) (h7 : x6 ≤ 7) (hl : x3.length < 140737488355328)
    (h : Ev (fun k => digest_Frame.l1 k (x3 ++ [be1 (x5.length : Int) x6]) x5 (x6 - 1) x7 x8 x9) r) : Ev (fun k => digest_Frame.l1 k x3 x5 x6 x7 x8 x9) r := by
  refine Ev.step (fun k => ?_) h
  simp only [digest_Frame.l1]
  have e1 : wrap64 (8 * x6) = 8 * x6 := w64 (by omega) (by omega)
  have e2 : wrap64 (x6 - 1) = x6 - 1 := w64 (by omega) (by omega)
  rw [if_pos (show x6 ≥ 0 from h0), e1, e2, if_pos (by omega), if_pos hl]
  rfl
theorem l1_all {x3 x5 : List Int} {x7 : List (List Int)} {x8 x9 : Int} {r : List Int} (hl : x3.length + 8 + x5.length < 140737488355328) (h0 : 0 ≤ x9) (h9 : x9 < 9223372036854775807)
    (h : Ev (fun k => digest_Frame.l0 k (x3 ++ be8 (x5.length : Int) ++ x5) x7 x8 (x9 + 1)) r) : Ev (fun k => digest_Frame.l1 k x3 x5 7 x7 x8 x9) r := by
  refine l1_step (by omega) (by omega) (by omega) ?_
  refine l1_step (by omega) (by omega) (by simp; omega) ?_
  refine l1_step (by omega) (by omega) (by simp; omega) ?_
  refine l1_step (by omega) (by omega) (by simp; omega) ?_
  refine l1_step (by omega) (by omega) (by simp; omega) ?_
  refine l1_step (by omega) (by omega) (by simp; omega) ?_
  refine l1_step (by omega) (by omega) (by simp; omega) ?_
  refine l1_step (by omega) (by omega) (by simp; omega) ?_
  refine Ev.step (fun k => ?_) h
  simp only [digest_Frame.l1]
  rw [if_neg (by omega), if_pos (by simp; omega), w64 (by omega) (by omega)]
  simp [be8]
theorem frame_l0 (xs : List (List Int)) (hx : xs.length < 9223372036854775807) : ∀ (d i : Nat) (acc : List Int), xs.length - i = d → i ≤ xs.length → acc.length + (frameOf (xs.drop i)).length < 140737488355328 →
    Ev (fun k => digest_Frame.l0 k acc xs (xs.length : Int) (i : Int)) (acc ++ frameOf (xs.drop i)) := by
  intro d
  induction d with
  | zero =>
    intro i acc hd hi hl
    obtain rfl : i = xs.length := by omega
    refine Ev.step (f := fun _ => some acc) (fun k => ?_) ?_
    · simp only [digest_Frame.l0]; rw [if_neg (by omega)]
    · have := Ev.now acc
      simpa [frameOf] using this
  | succ d ih =>
    intro i acc hd hi hl
    have hlt : i < xs.length := by omega
    have e : xs.drop i = xs[i] :: xs.drop (i + 1) := List.drop_eq_getElem_cons hlt
    have er : rd_L1 xs (i : Int) = xs[i] := by simp [rd_L1, List.getD, hlt]
    rw [e] at hl ⊢
    have e2 : frameOf (xs[i] :: xs.drop (i + 1)) = be8 (xs[i].length : Int) ++ xs[i] ++ frameOf (xs.drop (i + 1)) := by unfold frameOf; rw [List.flatMap_cons]
    rw [e2] at hl ⊢
    have h8 : (be8 (xs[i].length : Int)).length = 8 := rfl
    simp only [List.length_append, h8] at hl
    have := ih (i + 1) (acc ++ be8 (xs[i].length : Int) ++ xs[i]) (by omega) (by omega) (by simp only [List.length_append, h8]; omega)
    refine Ev.step (f := fun k => digest_Frame.l1 k acc xs[i] 7 xs (xs.length : Int) (i : Int)) (fun k => ?_) (l1_all (x3 := acc) (x5 := xs[i]) (x9 := (i : Int)) (by omega) (by omega) (by omega) ?_)
    · simp only [digest_Frame.l0]; rw [if_pos (by omega), if_pos (by omega), if_pos (by omega), er]
    · simpa using this
theorem frame_ev (xs : List (List Int)) (hx : xs.length < 9223372036854775807) (hl : (frameOf xs).length < 140737488355328) : Ev (fun k => digest_Frame.f k xs) (frameOf xs) := by
  have := frame_l0 xs hx xs.length 0 [] (by omega) (by omega) (by simpa using hl)
  simpa [digest_Frame.f] using this
theorem rl1_step {x0 : List (List Int)} {x3 : List Int} {x4 n j : Int} {r : List Int} (h0 : 0 ≤ j) (h7 : j ≤ 7) (hl : x3.length < 140737488355328)
    (h : Ev (fun k => flagstoneref2_Frame.l1 k x0 (x3 ++ [be1 n j]) x4 (IntKind.u64.wrap n) (8 * (j - 1))) r) : Ev (fun k => flagstoneref2_Frame.l1 k x0 x3 x4 (IntKind.u64.wrap n) (8 * j)) r := by
  refine Ev.step (fun k => ?_) h
  simp only [flagstoneref2_Frame.l1]
  rw [if_pos (by omega), u64w (n := 8 * j) (by omega) (by omega), if_pos (by omega), if_pos hl, w64 (by omega) (by omega)]
  rw [show 8 * j - 8 = 8 * (j - 1) by omega]
  rfl
theorem rl1_all {x0 : List (List Int)} {x3 : List Int} {i : Nat} (hi : i < x0.length) (hx : x0.length < 9223372036854775807) {r : List Int} (hl : x3.length + 8 + x0[i].length < 140737488355328)
    (h : Ev (fun k => flagstoneref2_Frame.l0 k x0 (x3 ++ be8 (x0[i].length : Int) ++ x0[i]) ((i : Int) + 1)) r) : Ev (fun k => flagstoneref2_Frame.l1 k x0 x3 (i : Int) (IntKind.u64.wrap (x0[i].length : Int)) (8 * 7)) r := by
  have er : rd_L1 x0 (i : Int) = x0[i] := by simp [rd_L1, List.getD, hi]
  refine rl1_step (by omega) (by omega) (by omega) ?_
  refine rl1_step (by omega) (by omega) (by simp; omega) ?_
  refine rl1_step (by omega) (by omega) (by simp; omega) ?_
  refine rl1_step (by omega) (by omega) (by simp; omega) ?_
  refine rl1_step (by omega) (by omega) (by simp; omega) ?_
  refine rl1_step (by omega) (by omega) (by simp; omega) ?_
  refine rl1_step (by omega) (by omega) (by simp; omega) ?_
  refine rl1_step (by omega) (by omega) (by simp; omega) ?_
  refine Ev.step (fun k => ?_) h
  simp only [flagstoneref2_Frame.l1]
  rw [if_neg (by omega), if_pos (by omega), if_pos (by omega), er, if_pos (by simp; omega), w64 (by omega) (by omega)]
  simp [be8]
theorem rframe_l0 (xs : List (List Int)) (hx : xs.length < 9223372036854775807) : ∀ (d i : Nat) (acc : List Int), xs.length - i = d → i ≤ xs.length → acc.length + (frameOf (xs.drop i)).length < 140737488355328 →
    Ev (fun k => flagstoneref2_Frame.l0 k xs acc (i : Int)) (acc ++ frameOf (xs.drop i)) := by
  intro d
  induction d with
  | zero =>
    intro i acc hd hi hl
    obtain rfl : i = xs.length := by omega
    refine Ev.step (f := fun _ => some acc) (fun k => ?_) ?_
    · simp only [flagstoneref2_Frame.l0]; rw [if_neg (by omega)]
    · have := Ev.now acc
      simpa [frameOf] using this
  | succ d ih =>
    intro i acc hd hi hl
    have hlt : i < xs.length := by omega
    have e : xs.drop i = xs[i] :: xs.drop (i + 1) := List.drop_eq_getElem_cons hlt
    have er : rd_L1 xs (i : Int) = xs[i] := by simp [rd_L1, List.getD, hlt]
    rw [e] at hl ⊢
    have e2 : frameOf (xs[i] :: xs.drop (i + 1)) = be8 (xs[i].length : Int) ++ xs[i] ++ frameOf (xs.drop (i + 1)) := by unfold frameOf; rw [List.flatMap_cons]
    rw [e2] at hl ⊢
    have h8 : (be8 (xs[i].length : Int)).length = 8 := rfl
    simp only [List.length_append, h8] at hl
    have := ih (i + 1) (acc ++ be8 (xs[i].length : Int) ++ xs[i]) (by omega) (by omega) (by simp only [List.length_append, h8]; omega)
    refine Ev.step (f := fun k => flagstoneref2_Frame.l1 k xs acc (i : Int) (IntKind.u64.wrap (xs[i].length : Int)) (8 * 7)) (fun k => ?_) (rl1_all hlt hx (by omega) ?_)
    · simp only [flagstoneref2_Frame.l0]; rw [if_pos (by omega), if_pos (by omega), er]; rfl
    · simpa using this
theorem rframe_ev (xs : List (List Int)) (hx : xs.length < 9223372036854775807) (hl : (frameOf xs).length < 140737488355328) : Ev (fun k => flagstoneref2_Frame.f k xs) (frameOf xs) := by
  have := rframe_l0 xs hx xs.length 0 [] (by omega) (by omega) (by simpa using hl)
  simpa [flagstoneref2_Frame.f] using this

/-! ### the hash value -/
theorem or_bv (a b : Int) : BitVec.ofInt 64 (Go.bits .or .u64 a b) = BitVec.ofInt 64 a ||| BitVec.ofInt 64 b := by
  have : Go.bits .or .u64 a b = ((BitVec.ofInt 64 a ||| BitVec.ofInt 64 b).toNat : Int) := by
    simp only [bits, IntKind.bits]
    exact u64w (by omega) (by have := (BitVec.ofInt 64 a ||| BitVec.ofInt 64 b).isLt; omega)
  rw [this, BitVec.ofInt_natCast, BitVec.ofNat_toNat, BitVec.setWidth_eq]
theorem or_eq (a b : Int) : Go.bits .or .u64 a b = ((BitVec.ofInt 64 a ||| BitVec.ofInt 64 b).toNat : Int) := by
  simp only [bits, IntKind.bits]
  exact u64w (by omega) (by have := (BitVec.ofInt 64 a ||| BitVec.ofInt 64 b).isLt; omega)
theorem or_swap (a b c : Int) : Go.bits .or .u64 (Go.bits .or .u64 a b) c = Go.bits .or .u64 (Go.bits .or .u64 a c) b := by
  rw [or_eq (Go.bits .or .u64 a b) c, or_eq (Go.bits .or .u64 a c) b, or_bv, or_bv, BitVec.or_assoc, BitVec.or_comm (BitVec.ofInt 64 b), ← BitVec.or_assoc]
theorem or_zero {n : Int} (h0 : 0 ≤ n) (h1 : n < 18446744073709551616) : Go.bits .or .u64 0 n = n := by
  rw [or_eq]
  obtain ⟨m, rfl⟩ := Int.eq_ofNat_of_zero_le h0
  simp only [BitVec.ofInt_natCast]
  have : m < 2 ^ 64 := by omega
  simp [Nat.mod_eq_of_lt this]
theorem bytes_or (l : List Int) (i : Nat) (n0 : Int) (h0 : 0 ≤ n0) (h1 : n0 < 18446744073709551616) : ∀ k, Go.bits .or .u64 (bytesIn l i 0 k) n0 = bytesIn l i n0 k
  | 0 => or_zero h0 h1
  | k + 1 => by
    simp only [bytesIn]
    rw [or_swap, bytes_or l i n0 h0 h1 k]

theorem last_word (n : Nat) : ((n : Int) % 256) * 72057594037927936 = IntKind.u64.wrap ((n : Int) * 72057594037927936) := by
  simp only [IntKind.wrap, IntKind.bits, IntKind.signed, Bool.false_and, Bool.false_eq_true, if_false]
  omega
theorem rounds_f (s : Int × Int × Int × Int) (n : Nat) (h : n ≤ 100) : flagstoneref2_state_rounds.f s.1 s.2.1 s.2.2.1 s.2.2.2 (n : Int) = some (sipRounds n s) := by
  unfold flagstoneref2_state_rounds.f
  rw [if_pos (by omega)]
  rfl
theorem sipWord_eq (m : Int) (s t : Int × Int × Int × Int) (ht : sipRounds 2 (s.1, s.2.1, s.2.2.1, Go.bits .xor .u64 s.2.2.2 m) = t) : sipWord m s = (Go.bits .xor .u64 t.1 m, t.2.1, t.2.2.1, t.2.2.2) := by
  subst ht
  exact Eq.refl (sipWord m s)
theorem sipEnd_eq (s t : Int × Int × Int × Int) (ht : sipRounds 4 (s.1, s.2.1, Go.bits .xor .u64 s.2.2.1 255, s.2.2.2) = t) : sipEnd s = Go.bits .xor .u64 (Go.bits .xor .u64 (Go.bits .xor .u64 t.1 t.2.1) t.2.2.1) t.2.2.2 := by
  subst ht
  exact Eq.refl (sipEnd s)
section
variable (l : List Int) (hl : l.length ≤ 140737488355328)
include hl
theorem rs_step (j : Nat) (hj : j ≤ l.length / 8) (i : Nat) (hi : i < 8) (hb : 8 * j + i < l.length) (m : Int) (s : Int × Int × Int × Int) {r : Int}
    (h : Ev (fun k => flagstoneref2_Sum.l1 k l (j : Int) (Go.bits .or .u64 m (IntKind.u64.wrap (IntKind.u64.wrap (rd l ((8 * j + i : Nat) : Int)) * 2 ^ (8 * i)))) ((i + 1 : Nat) : Int) s.1 s.2.1 s.2.2.1 s.2.2.2) r) :
    Ev (fun k => flagstoneref2_Sum.l1 k l (j : Int) m (i : Int) s.1 s.2.1 s.2.2.1 s.2.2.2) r := by
  refine Ev.step (fun k => ?_) h
  simp only [flagstoneref2_Sum.l1]
  have e1 : wrap64 (8 * (j : Int)) = 8 * (j : Int) := w64 (by omega) (by omega)
  have e2 : wrap64 (8 * (j : Int) + (i : Int)) = ((8 * j + i : Nat) : Int) := by rw [w64 (by omega) (by omega)]; omega
  have e3 : IntKind.u64.wrap (wrap64 (8 * (i : Int))) = ((8 * i : Nat) : Int) := by rw [w64 (by omega) (by omega), u64w (by omega) (by omega)]; omega
  have e4 : wrap64 ((i : Int) + 1) = ((i + 1 : Nat) : Int) := by rw [w64 (by omega) (by omega)]; omega
  rw [if_pos (by omega), e1, e2, if_pos (by omega), if_pos (by omega), e3, if_pos (by omega), e4]
  have : shl .u64 (IntKind.u64.wrap (rd l ((8 * j + i : Nat) : Int))) ((8 * i : Nat) : Int) = IntKind.u64.wrap (IntKind.u64.wrap (rd l ((8 * j + i : Nat) : Int)) * 2 ^ (8 * i)) := by
    unfold shl
    rw [Int.toNat_natCast, Nat.min_eq_left (by simp only [IntKind.bits]; omega)]
  rw [this]
theorem rs_inner (j : Nat) (hj : j ≤ l.length / 8) (s : Int × Int × Int × Int) {r : Int} (t : Nat) (ht : t ≤ 8) (hb : 8 * j + t ≤ l.length) : ∀ (d i : Nat), t - i = d → i ≤ t →
    Ev (fun k => flagstoneref2_Sum.l1 k l (j : Int) (bytesIn l (8 * j) 0 t) (t : Int) s.1 s.2.1 s.2.2.1 s.2.2.2) r →
    Ev (fun k => flagstoneref2_Sum.l1 k l (j : Int) (bytesIn l (8 * j) 0 i) (i : Int) s.1 s.2.1 s.2.2.1 s.2.2.2) r := by
  intro d
  induction d with
  | zero => intro i hd hi h; obtain rfl : i = t := by omega
            exact h
  | succ d ih => intro i hd hi h; exact rs_step l hl j hj i (by omega) (by omega) _ s (ih (i + 1) (by omega) (by omega) h)
theorem rs_word (j : Nat) (hj : j < l.length / 8) (s : Int × Int × Int × Int) {r : Int}
    (h : Ev (fun k => flagstoneref2_Sum.l0 k l ((j + 1 : Nat) : Int) (sipWord (bytesIn l (8 * j) 0 8) s).1 (sipWord (bytesIn l (8 * j) 0 8) s).2.1 (sipWord (bytesIn l (8 * j) 0 8) s).2.2.1 (sipWord (bytesIn l (8 * j) 0 8) s).2.2.2) r) :
    Ev (fun k => flagstoneref2_Sum.l0 k l (j : Int) s.1 s.2.1 s.2.2.1 s.2.2.2) r := by
  have e1 : wrap64 ((l.length : Int) / 8) = (l.length : Int) / 8 := w64 (by omega) (by omega)
  refine Ev.step (f := fun k => flagstoneref2_Sum.l1 k l (j : Int) (bytesIn l (8 * j) 0 0) ((0 : Nat) : Int) s.1 s.2.1 s.2.2.1 s.2.2.2) (fun k => ?_) (rs_inner l hl j (by omega) s 8 (by omega) (by omega) 8 0 (by omega) (by omega) ?_)
  · simp only [flagstoneref2_Sum.l0]; rw [if_pos (by omega)]; rfl
  · refine Ev.step (fun k => ?_) h
    simp only [flagstoneref2_Sum.l1]
    rw [if_neg (by omega), if_neg (by omega)]
    obtain ⟨t, ht⟩ : ∃ t, sipRounds 2 (s.1, s.2.1, s.2.2.1, Go.bits .xor .u64 s.2.2.2 (bytesIn l (8 * j) 0 8)) = t := ⟨_, rfl⟩
    rw [sipWord_eq _ s t ht]
    have := rounds_f (s.1, s.2.1, s.2.2.1, Go.bits .xor .u64 s.2.2.2 (bytesIn l (8 * j) 0 8)) 2 (by omega)
    simp only [Int.cast_ofNat_Int] at this
    rw [ht] at this
    rw [this, w64 (by omega) (by omega), Option.bind_some]
    rfl
theorem rs_last (s : Int × Int × Int × Int) : Ev (fun k => flagstoneref2_Sum.l0 k l ((l.length / 8 : Nat) : Int) s.1 s.2.1 s.2.2.1 s.2.2.2) (sipEnd (sipWord (bytesIn l (l.length - l.length % 8) (IntKind.u64.wrap ((l.length : Int) * 72057594037927936)) (l.length % 8)) s)) := by
  have e1 : wrap64 ((l.length : Int) / 8) = (l.length : Int) / 8 := w64 (by omega) (by omega)
  have e8 : l.length - l.length % 8 = 8 * (l.length / 8) := by omega
  have hw : 0 ≤ IntKind.u64.wrap ((l.length : Int) * 72057594037927936) ∧ IntKind.u64.wrap ((l.length : Int) * 72057594037927936) < 18446744073709551616 := by rw [← last_word]; omega
  rw [e8, ← bytes_or l _ _ hw.1 hw.2]
  generalize hm : Go.bits .or .u64 (bytesIn l (8 * (l.length / 8)) 0 (l.length % 8)) (IntKind.u64.wrap ((l.length : Int) * 72057594037927936)) = m
  refine Ev.step (f := fun k => flagstoneref2_Sum.l1 k l ((l.length / 8 : Nat) : Int) (bytesIn l (8 * (l.length / 8)) 0 0) ((0 : Nat) : Int) s.1 s.2.1 s.2.2.1 s.2.2.2) (fun k => ?_) (rs_inner l hl (l.length / 8) (by omega) s (l.length % 8) (by omega) (by omega) (l.length % 8) 0 (by omega) (by omega) ?_)
  · simp only [flagstoneref2_Sum.l0]; rw [if_pos (by omega)]; rfl
  · obtain ⟨t, ht⟩ : ∃ t, sipRounds 2 (s.1, s.2.1, s.2.2.1, Go.bits .xor .u64 s.2.2.2 m) = t := ⟨_, rfl⟩
    rw [sipWord_eq _ s t ht]
    obtain ⟨u, hu⟩ : ∃ u, sipRounds 4 ((Go.bits .xor .u64 t.1 m, t.2.1, t.2.2.1, t.2.2.2).1, (Go.bits .xor .u64 t.1 m, t.2.1, t.2.2.1, t.2.2.2).2.1, Go.bits .xor .u64 (Go.bits .xor .u64 t.1 m, t.2.1, t.2.2.1, t.2.2.2).2.2.1 255, (Go.bits .xor .u64 t.1 m, t.2.1, t.2.2.1, t.2.2.2).2.2.2) = u := ⟨_, rfl⟩
    rw [sipEnd_eq _ u hu]
    dsimp only at hu
    have h2 := rounds_f (s.1, s.2.1, s.2.2.1, Go.bits .xor .u64 s.2.2.2 m) 2 (by omega)
    simp only [Int.cast_ofNat_Int] at h2
    rw [ht] at h2
    refine Ev.step (f := fun k => flagstoneref2_Sum.l0 k l ((l.length / 8 : Nat) + 1 : Int) (Go.bits .xor .u64 t.1 m) t.2.1 t.2.2.1 t.2.2.2) (fun k => ?_) ?_
    · simp only [flagstoneref2_Sum.l1]
      have eb : wrap64 (wrap64 (8 * ((l.length / 8 : Nat) : Int)) + ((l.length % 8 : Nat) : Int)) = (l.length : Int) := by rw [w64 (n := 8 * _) (by omega) (by omega), w64 (by omega) (by omega)]; omega
      rw [if_pos (by omega), eb, if_neg (by omega), e1, if_pos (by omega), last_word, hm, h2, w64 (by omega) (by omega)]
      rw [Option.bind_some]
    · refine Ev.step (f := fun _ => some (Go.bits .xor .u64 (Go.bits .xor .u64 (Go.bits .xor .u64 u.1 u.2.1) u.2.2.1) u.2.2.2)) (fun k => ?_) (Ev.now _)
      simp only [flagstoneref2_Sum.l0]
      have h4 := rounds_f (Go.bits .xor .u64 t.1 m, t.2.1, Go.bits .xor .u64 t.2.2.1 255, t.2.2.2) 4 (by omega)
      simp only [Int.cast_ofNat_Int] at h4
      rw [hu] at h4
      rw [if_neg (by omega), h4, Option.bind_some]
theorem rs_blocks (s0 : Int × Int × Int × Int) {r : Int} : ∀ (d j : Nat), l.length / 8 - j = d → j ≤ l.length / 8 →
    Ev (fun k => flagstoneref2_Sum.l0 k l ((l.length / 8 : Nat) : Int) (sipBlocks l s0 (l.length / 8)).1 (sipBlocks l s0 (l.length / 8)).2.1 (sipBlocks l s0 (l.length / 8)).2.2.1 (sipBlocks l s0 (l.length / 8)).2.2.2) r →
    Ev (fun k => flagstoneref2_Sum.l0 k l (j : Int) (sipBlocks l s0 j).1 (sipBlocks l s0 j).2.1 (sipBlocks l s0 j).2.2.1 (sipBlocks l s0 j).2.2.2) r := by
  intro d
  induction d with
  | zero => intro j hd hj h; obtain rfl : j = l.length / 8 := by omega
            exact h
  | succ d ih => intro j hd hj h; exact rs_word l hl j (by omega) _ (ih (j + 1) (by omega) (by omega) h)
theorem rsum_ev (k0 k1 : Int) : Ev (fun k => flagstoneref2_Sum.f k k0 k1 l) (sipSum k0 k1 l) :=
  rs_blocks l hl (sipInit k0 k1) (l.length / 8) 0 (by omega) (by omega) (rs_last l hl _)
theorem sum_f (k0 k1 : Int) : digest_Sum.f k0 k1 l = some (sipSum k0 k1 l) := by
  unfold digest_Sum.f
  rw [if_pos hl]
end
end Go.Proofs.Ytedpmohnnagamaa.PureDig
