/- Laying down and reading back. -/
import Derived.Test.YtabkfgkpofjeoaaDoorUnpack0
set_option linter.unusedVariables false
set_option linter.unusedSimpArgs false
set_option maxRecDepth 100000
namespace Go.Proofs.YtabkfgkpofjeoaaDoor.Code0
open Go Go.Sy Go.Proofs.YtabkfgkpofjeoaaDoor.F Go.Proofs.YtabkfgkpofjeoaaDoor.Base Go.Proofs.YtabkfgkpofjeoaaDoor.Key0 Go.Proofs.YtabkfgkpofjeoaaDoor.Check0 Go.Proofs.YtabkfgkpofjeoaaDoor.Batch0 Go.Proofs.YtabkfgkpofjeoaaDoor.Mac0 Go.Proofs.YtabkfgkpofjeoaaDoor.Num0 Go.Proofs.YtabkfgkpofjeoaaDoor.Pack0 Go.Proofs.YtabkfgkpofjeoaaDoor.Data0 Go.Proofs.YtabkfgkpofjeoaaDoor.Read0 Go.Proofs.YtabkfgkpofjeoaaDoor.Read1 Go.Proofs.YtabkfgkpofjeoaaDoor.Unpack0
def Bytes (l : List Int) : Prop := ∀ x ∈ l, 0 ≤ x ∧ x < 256
theorem andAll : ((List.range 256).all fun a => ibits .u8 0 (a : Int) 127 == ((a % 128 : Nat) : Int)) = true := by kernel_rfl
theorem and127b {a : Nat} (h : a < 256) : ibits .u8 0 (a : Int) 127 = ((a % 128 : Nat) : Int) := by
  have := andAll
  rw [List.all_eq_true] at this
  simpa using this a (List.mem_range.2 h)
/-- One more group. -/
theorem acc_step {l : List Int} {i A b : Nat} (hi : i ≤ 9) (ha : accI l i = (A : Int)) (hA : A < 2 ^ (7 * i)) (hb : l.getD i 0 = (b : Int)) (hb' : b < 256) (hx : (b % 128) * 2 ^ (7 * i) < 18446744073709551616) : accI l (i + 1) = ((A + (b % 128) * 2 ^ (7 * i) : Nat) : Int) := by
  show ibits .u64 1 (accI l i) (ishl .u64 (IntKind.wrap .u64 (ibits .u8 0 (l.getD i 0) 127)) (7 * (i : Int))) = _
  rw [ha, hb, and127b hb', u64s (by omega)]
  have e : ishl .u64 ((b % 128 : Nat) : Int) (7 * (i : Int)) = (((b % 128) * 2 ^ (7 * i) : Nat) : Int) := by
    unfold ishl
    rw [show (7 * (i : Int)).toNat = 7 * i by omega, Nat.min_eq_left (by show 7 * i ≤ 64; omega)]
    rw [show ((b % 128 : Nat) : Int) * 2 ^ (7 * i) = (((b % 128) * 2 ^ (7 * i) : Nat) : Int) by rw [Int.natCast_mul, Int.natCast_pow]; rfl]
    exact u64s hx
  rw [e]
  have hp : 2 ^ (7 * i) ≤ 2 ^ 63 := Nat.pow_le_pow_right (by omega) (by omega)
  show IntKind.wrap .u64 ((BitVec.ofInt 64 (A : Int) ||| BitVec.ofInt 64 (((b % 128) * 2 ^ (7 * i) : Nat) : Int)).toNat : Int) = _
  rw [BitVec.toNat_or, ofInt_u64 A (by omega), ofInt_u64 _ hx, Nat.or_comm, Nat.mul_comm (b % 128), ← Nat.two_pow_add_eq_or_of_lt hA, Nat.add_comm]
  have : A + 2 ^ (7 * i) * (b % 128) < 18446744073709551616 := by
    have h1 : 2 ^ (7 * i) * (b % 128) + 2 ^ (7 * i) ≤ 18446744073709551616 := by
      have e64 : 18446744073709551616 = 2 ^ (7 * i) * 2 ^ (64 - 7 * i) := by rw [← Nat.pow_add, show 7 * i + (64 - 7 * i) = 64 by omega]
      rw [e64] at hx ⊢
      rw [Nat.mul_comm (b % 128)] at hx
      have h2 : b % 128 < 2 ^ (64 - 7 * i) := Nat.lt_of_mul_lt_mul_left hx
      rw [← Nat.mul_succ]
      exact Nat.mul_le_mul_left _ h2
    omega
  exact u64s this
theorem pow_step (i : Nat) : 2 ^ (7 * (i + 1)) = 128 * 2 ^ (7 * i) := by
  rw [show 7 * (i + 1) = 7 + 7 * i by omega, Nat.pow_add]
theorem rem_step {i : Nat} (hi : i < 9) : 2 ^ (64 - 7 * i) = 128 * 2 ^ (64 - 7 * (i + 1)) := by
  rw [show 64 - 7 * i = 7 + (64 - 7 * (i + 1)) by omega, Nat.pow_add]
theorem p64 {i : Nat} (hi : i ≤ 9) : 2 ^ (7 * i) * 2 ^ (64 - 7 * i) = 18446744073709551616 := by
  rw [← Nat.pow_add, show 7 * i + (64 - 7 * i) = 64 by omega]
theorem drop_head {l r : List Int} {i : Nat} {b : Int} (h : l.drop i = b :: r) : i < l.length ∧ l.getD i 0 = b ∧ l.drop (i + 1) = r := by
  refine ⟨?_, ?_, ?_⟩
  · rcases Nat.lt_or_ge i l.length with h' | h'
    · exact h'
    · rw [List.drop_eq_nil_of_le h'] at h; cases h
  · have := getD_drop l i 0
    rw [h] at this
    simpa using this.symm
  · rw [← List.drop_drop, h]; rfl
theorem mul_bd {x i : Nat} (hi : i ≤ 9) (hx : x < 2 ^ (64 - 7 * i)) : x * 2 ^ (7 * i) < 18446744073709551616 := by
  rw [← p64 hi, Nat.mul_comm]
  exact Nat.mul_lt_mul_of_pos_left hx (Nat.pow_pos (by omega))
/-- What was laid down is read back. -/
theorem fwd (l rest : List Int) : ∀ k i n A, i + k = 9 → accI l i = ((A : Nat) : Int) → A < 2 ^ (7 * i) → n < 2 ^ (64 - 7 * i) → (1 ≤ n ∨ i = 0) → l.drop i = hd k n ++ ((lst k n : Nat) : Int) :: rest →
    numG l (k + 1) i = (0, unz ((A + n * 2 ^ (7 * i) : Nat) : Int), i + (hd k n).length + 1)
  | k, i, n, A, hik, ha, hA, hn, h1, hd' => by
    by_cases hs : n < 128
    · have e1 : hd k n = [] := by cases k <;> simp [hd, hs]
      have e2 : lst k n = n := by cases k <;> simp [lst, hs]
      rw [e1, e2, List.nil_append] at hd'
      obtain ⟨hl, hg, _⟩ := drop_head hd'
      rw [numG, hg, decide_eq_false (by omega : ¬ (i : Int) ≥ (l.length : Int)), decide_eq_false (by omega : ¬ ((n : Nat) : Int) ≥ 128), e1]
      simp only [cond_false]
      have c1 : (bif (i : Int) == 9 then decide (((n : Nat) : Int) > 1) else false) = false := by
        by_cases h9 : i = 9
        · subst h9
          rw [show 2 ^ (64 - 7 * 9) = 2 from rfl] at hn
          rw [decide_eq_false (by omega : ¬ ((n : Nat) : Int) > 1)]
          rfl
        · rw [show ((i : Int) == 9) = false by simpa using (by omega : ¬ (i : Int) = 9)]; rfl
      have c2 : (bif ((n : Nat) : Int) == 0 then decide ((i : Int) > 0) else false) = false := by
        rcases h1 with h1 | h1
        · rw [show (((n : Nat) : Int) == 0) = false by simpa using (by omega : ¬ n = 0)]; rfl
        · subst h1
          rw [show decide (((0 : Nat) : Int) > 0) = false from rfl]
          cases (((n : Nat) : Int) == 0) <;> rfl
      rw [c1, c2, acc_step (by omega) ha hA hg (by omega) (by rw [Nat.mod_eq_of_lt hs]; exact mul_bd (by omega) hn), Nat.mod_eq_of_lt hs]
      rfl
    · cases k with
      | zero =>
        have : i = 9 := by omega
        subst this
        rw [show 2 ^ (64 - 7 * 9) = 2 from rfl] at hn
        omega
      | succ k =>
        have e1 : hd (k + 1) n = ((n % 128 + 128 : Nat) : Int) :: hd k (n / 128) := by simp [hd, hs]
        have e2 : lst (k + 1) n = lst k (n / 128) := by simp [lst, hs]
        rw [e1, e2, List.cons_append] at hd'
        obtain ⟨hl, hg, ht⟩ := drop_head hd'
        rw [numG, hg, decide_eq_false (by omega : ¬ (i : Int) ≥ (l.length : Int)), decide_eq_true (by omega : ((n % 128 + 128 : Nat) : Int) ≥ 128), e1]
        simp only [cond_false, cond_true]
        rw [show ((i : Int) == 9) = false by simpa using (by omega : ¬ (i : Int) = 9)]
        simp only [cond_false]
        have hR := rem_step (by omega : i < 9)
        have hm : (n % 128 + 128) % 128 = n % 128 := by omega
        have hmp : n % 128 * 2 ^ (7 * i) < 18446744073709551616 := mul_bd (by omega) (by rw [hR]; have : 0 < 2 ^ (64 - 7 * (i + 1)) := Nat.pow_pos (by omega); omega)
        have hacc := acc_step (by omega) ha hA hg (by omega) (by rw [hm]; exact hmp)
        rw [hm] at hacc
        have hx : n % 128 * 2 ^ (7 * i) ≤ 127 * 2 ^ (7 * i) := Nat.mul_le_mul_right _ (by omega)
        have := fwd l rest k (i + 1) (n / 128) _ (by omega) hacc (by rw [pow_step]; omega) (by rw [hR] at hn; omega) (.inl (by omega)) ht
        rw [this]
        have ev : A + n % 128 * 2 ^ (7 * i) + n / 128 * 2 ^ (7 * (i + 1)) = A + n * 2 ^ (7 * i) := by
          rw [pow_step, Nat.add_assoc, ← Nat.mul_assoc, ← Nat.add_mul]
          congr 2; omega
        rw [ev, List.length_cons]
        congr 2; omega
/-- What is read is laid down in just those bytes. -/
theorem inv (l : List Int) (hb : Bytes l) : ∀ k i A, i + k = 9 → accI l i = ((A : Nat) : Int) → A < 2 ^ (7 * i) → ∀ v c, numG l (k + 1) i = (0, v, c) →
    ∃ n, n < 2 ^ (64 - 7 * i) ∧ (1 ≤ n ∨ i = 0) ∧ v = unz ((A + n * 2 ^ (7 * i) : Nat) : Int) ∧ l.drop i = hd k n ++ ((lst k n : Nat) : Int) :: l.drop c
  | k, i, A, hik, ha, hA, v, c, h => by
    rw [numG] at h
    by_cases hl : (i : Int) ≥ (l.length : Int)
    · rw [decide_eq_true hl, cond_true] at h
      exact absurd (Prod.mk.inj h).1 (by decide)
    rw [decide_eq_false hl, cond_false] at h
    have hlt : i < l.length := by omega
    have hd1 : l.drop i = l.getD i 0 :: l.drop (i + 1) := by rw [List.drop_eq_getElem_cons hlt, getD_at hlt]
    have hb1 := hb _ (getD_mem hlt 0)
    generalize hg : l.getD i 0 = b at h hd1 hb1
    obtain ⟨b, rfl⟩ := Int.eq_ofNat_of_zero_le hb1.1
    have hb2 : b < 256 := by omega
    cases h2 : (bif (i : Int) == 9 then decide ((b : Int) > 1) else false)
    · rw [h2, cond_false] at h
      by_cases h3 : (b : Int) ≥ 128
      · rw [decide_eq_true h3, cond_true] at h
        cases k with
        | zero =>
          have : i = 9 := by omega
          subst this
          rw [show (((9 : Nat) : Int) == 9) = true from rfl, cond_true, decide_eq_false_iff_not] at h2
          omega
        | succ k =>
          have hR := rem_step (by omega : i < 9)
          have hmp : b % 128 * 2 ^ (7 * i) < 18446744073709551616 := mul_bd (by omega) (by rw [hR]; have : 0 < 2 ^ (64 - 7 * (i + 1)) := Nat.pow_pos (by omega); omega)
          have hacc := acc_step (by omega) ha hA hg hb2 hmp
          have hx : b % 128 * 2 ^ (7 * i) ≤ 127 * 2 ^ (7 * i) := Nat.mul_le_mul_right _ (by omega)
          obtain ⟨n, n1, n2, n3, n4⟩ := inv l hb k (i + 1) _ (by omega) hacc (by rw [pow_step]; omega) v c h
          have hn1 : 1 ≤ n := n2.resolve_right (by omega)
          refine ⟨b % 128 + 128 * n, by rw [hR]; omega, .inl (by omega), ?_, ?_⟩
          · rw [n3]
            congr 2
            rw [pow_step, Nat.add_mul, Nat.add_assoc, Nat.mul_assoc 128, Nat.mul_left_comm n]
          · have hs : ¬ (b % 128 + 128 * n < 128) := by omega
            rw [hd1, n4]
            simp only [hd, lst, if_neg hs]
            rw [show (b % 128 + 128 * n) / 128 = n by omega, show (b % 128 + 128 * n) % 128 + 128 = b by omega, List.cons_append]
      · rw [decide_eq_false h3, cond_false] at h
        have hs : b < 128 := by omega
        cases h4 : (bif (b : Int) == 0 then decide ((i : Int) > 0) else false)
        · rw [h4, cond_false] at h
          obtain ⟨-, h5⟩ := Prod.mk.inj h
          obtain ⟨hv, h6⟩ := Prod.mk.inj h5
          subst h6
          have hn : b < 2 ^ (64 - 7 * i) := by
            by_cases h9 : i = 9
            · subst h9
              rw [show (((9 : Nat) : Int) == 9) = true from rfl, cond_true, decide_eq_false_iff_not] at h2
              show b < 2
              omega
            · have : 2 ^ 7 ≤ 2 ^ (64 - 7 * i) := Nat.pow_le_pow_right (by omega) (by omega)
              omega
          refine ⟨b, hn, ?_, ?_, ?_⟩
          · by_cases h0 : i = 0
            · exact .inr h0
            · left
              rw [decide_eq_true (by omega : (i : Int) > 0)] at h4
              have : ¬ b = 0 := by
                intro e; subst e; cases h4
              omega
          · rw [← hv, acc_step (by omega) ha hA hg hb2 (by rw [Nat.mod_eq_of_lt hs]; exact mul_bd (by omega) hn), Nat.mod_eq_of_lt hs]
          · have e1 : hd k b = [] := by cases k <;> simp [hd, hs]
            have e2 : lst k b = b := by cases k <;> simp [lst, hs]
            rw [e1, e2, hd1]
            rfl
        · rw [h4, cond_true] at h
          exact absurd (Prod.mk.inj h).1 (by decide)
    · rw [h2, cond_true] at h
      exact absurd (Prod.mk.inj h).1 (by decide)
theorem unz_zig {x : Int} (h : R64 x) : unz (zig x : Int) = x := by
  obtain ⟨h1, h2⟩ := h
  unfold unz zig
  split <;> split <;> omega
theorem zig_unz {n : Nat} (h : n < 18446744073709551616) : zig (unz (n : Int)) = n ∧ R64 (unz (n : Int)) := by
  unfold unz zig R64
  split <;> split <;> omega
theorem num_fwd {x : Int} (h : R64 x) (rest : List Int) : num (nb x ++ rest) = (0, x, (nb x).length) := by
  have hz := zig_lt h.1 h.2
  have := fwd (nb x ++ rest) rest 9 0 (zig x) 0 rfl rfl (by decide) (by simpa using hz) (.inr rfl) (by rw [List.drop_zero]; unfold nb gr; rw [List.append_assoc]; rfl)
  unfold num
  rw [this]
  simp only [Nat.mul_zero, Nat.pow_zero, Nat.mul_one, Nat.zero_add]
  rw [unz_zig h]
  unfold nb gr
  rw [List.length_append]
  rfl
theorem num_inv {l : List Int} (hb : Bytes l) {v : Int} {c : Nat} (h : num l = (0, v, c)) : l = nb v ++ l.drop c ∧ R64 v := by
  obtain ⟨n, h1, _, h3, h4⟩ := inv l hb 9 0 0 rfl rfl (by decide) v c h
  simp only [Nat.mul_zero, Nat.pow_zero, Nat.mul_one, Nat.zero_add] at h3 h4
  have hn : n < 18446744073709551616 := by simpa using h1
  have hz := zig_unz hn
  subst h3
  refine ⟨?_, hz.2⟩
  unfold nb gr
  rw [hz.1, List.append_assoc]
  rw [List.drop_zero] at h4
  exact h4
theorem Bytes.drop {l : List Int} (h : Bytes l) (n : Nat) : Bytes (l.drop n) := fun x hx => h x (List.mem_of_mem_drop hx)
theorem Bytes.take {l : List Int} (h : Bytes l) (n : Nat) : Bytes (l.take n) := fun x hx => h x (List.mem_of_mem_take hx)
theorem Bytes.right {a b : List Int} (h : Bytes (a ++ b)) : Bytes b := fun x hx => h x (List.mem_append_right _ hx)
theorem numS_fwd {x : Int} (h : R64 x) (rest : List Int) : numS (nb x ++ rest, 0) = (x, (rest, 0)) := by
  unfold numS
  simp only
  rw [show ((0 : Int) != 0) = false from rfl, cond_false, num_fwd h]
  simp
theorem numS_inv {s : S} (hb : Bytes s.1) (h : (numS s).2.2 = 0) : s.2 = 0 ∧ s.1 = nb (numS s).1 ++ (numS s).2.1 ∧ R64 (numS s).1 := by
  unfold numS at h ⊢
  by_cases h0 : s.2 = 0
  · rw [h0, show ((0 : Int) != 0) = false from rfl, cond_false] at h ⊢
    simp only at h ⊢
    obtain ⟨h1, h2⟩ := num_inv hb (v := (num s.1).2.1) (c := (num s.1).2.2) (by rw [← h])
    exact ⟨trivial, h1, h2⟩
  · rw [ne_b h0, cond_true] at h
    exact absurd h h0
theorem strOf_bytesOf (s : ByteArray) : strOf (bytesOf s) = s := by
  unfold strOf bytesOf
  rw [List.map_map]
  have : ((fun n : Int => UInt8.ofNat n.toNat) ∘ fun b : UInt8 => (b.toNat : Int)) = id := by
    funext b; simp
  rw [this, List.map_id]
theorem bytesOf_strOf {l : List Int} (h : Bytes l) : bytesOf (strOf l) = l := by
  unfold strOf bytesOf
  simp only [List.map_map]
  conv => rhs; rw [← List.map_id l]
  apply List.map_congr_left
  intro x hx
  have := h x hx
  simp only [Function.comp, id]
  obtain ⟨n, rfl⟩ := Int.eq_ofNat_of_zero_le this.1
  rw [Int.toNat_natCast, UInt8.toNat_ofNat', Nat.mod_eq_of_lt (by omega)]
theorem txtS_fwd {t : ByteArray} (h : t.size ≤ 32) (rest : List Int) : txtS (tb t ++ rest, 0) = (t, (rest, 0)) := by
  have e : numS (tb t ++ rest, 0) = ((t.size : Int), (bytesOf t ++ rest, 0)) := by
    have := numS_fwd (x := (t.size : Int)) ⟨by omega, by omega⟩ (bytesOf t ++ rest)
    rw [← this]
    unfold tb nb
    rw [List.append_assoc]
  unfold txtS
  rw [e]
  simp only
  rw [show ((0 : Int) != 0) = false from rfl, decide_eq_false (by omega : ¬ (t.size : Int) < 0), decide_eq_false (by omega : ¬ (t.size : Int) > 32), decide_eq_false (by rw [List.length_append, bytes_len]; omega : ¬ (t.size : Int) > ((bytesOf t ++ rest).length : Int))]
  simp only [cond_false, Int.toNat_natCast]
  rw [List.take_left' (bytes_len t), List.drop_left' (bytes_len t), strOf_bytesOf]
theorem txtS_inv {s : S} (hb : Bytes s.1) (h : (txtS s).2.2 = 0) : s.2 = 0 ∧ s.1 = tb (txtS s).1 ++ (txtS s).2.1 := by
  unfold txtS at h ⊢
  by_cases h0 : (numS s).2.2 = 0
  · obtain ⟨h1, h2, h3⟩ := numS_inv hb h0
    rw [h0, show ((0 : Int) != 0) = false from rfl, cond_false] at h ⊢
    by_cases h3 : (numS s).1 < 0
    · rw [decide_eq_true h3] at h; exact n3 h
    rw [decide_eq_false h3] at h ⊢
    by_cases h4 : (numS s).1 > 32
    · rw [decide_eq_true h4] at h; exact n4 h
    rw [decide_eq_false h4] at h ⊢
    by_cases h5 : (numS s).1 > ((numS s).2.1.length : Int)
    · rw [decide_eq_true h5] at h; exact n16 h
    rw [decide_eq_false h5]
    simp only [cond_false]
    refine ⟨h1, ?_⟩
    rw [h2] at hb
    have hb2 := hb.right
    generalize (numS s).1 = v at h2 h3 h4 h5
    generalize (numS s).2.1 = r at h2 h5 hb2
    obtain ⟨n, rfl⟩ := Int.eq_ofNat_of_zero_le (by omega : 0 ≤ v)
    rw [Int.toNat_natCast]
    unfold tb
    rw [strOf_size, List.length_take, Nat.min_eq_left (by omega), bytesOf_strOf (hb2.take n), List.append_assoc, List.take_append_drop, h2]
    rfl
  · rw [ne_b h0, cond_true] at h
    exact absurd h h0
end Go.Proofs.YtabkfgkpofjeoaaDoor.Code0
