/- DigestInjective's walk: where all that it calls answers, it returns true, for every two lists of fields and every two numbers. -/
import Derived.Test.YtedpmohnnagamaaPureHash
import Derived.Test.YtedpmohnnagamaaWalkLengths
import Derived.Test.YtedpmohnnagamaaFree
import Derived.Lib.Bytes
namespace Go.Proofs.Ytedpmohnnagamaa.WalkInj
open Go.RowKit Go.Proofs.Ytedpmohnnagamaa.Print Go.Proofs.Ytedpmohnnagamaa.Free Go.Proofs.Ytedpmohnnagamaa.PureDig Go.Proofs.Ytedpmohnnagamaa.PureHash Go.Proofs.Ytedpmohnnagamaa.WalkLengths Go.Proofs.YtedpmohnnagamaaW.PrintWords Go.Proofs.YtedpmohnnagamaaW.PrintLast Go.Proofs.YtedpmohnnagamaaW.PrintMore
attribute [local go_sem] max2_int min2_int max_two min_two max_three min_three max_four min_four
set_option linter.unusedVariables false
set_option linter.unusedSimpArgs false
def ij.T12 : Bool × List (List Nat × List Nat) := (true, [([], []), ([], []), ([0, 1], [0, 1]), ([], []), ([], []), ([3, 4], [3, 4]), ([2, 5], [2, 5]), ([6, 0, 1, 2, 3, 4, 5, 6], [6])])
def ij.B12 : List Nat := [0, 0, 3, 0, 0, 24, 63, 127]
theorem ij.tab12 : rtab .any (opsOf Try.f5 12) = ij.T12 := by kernel_rfl
theorem ij.bits12 : waitsOk ij.T12.2 ij.B12 = true := by kernel_rfl
def ij.T17 : Bool × List (List Nat × List Nat) := (true, [([], []), ([], []), ([0, 1], [0, 1]), ([2], [2]), ([3], [3]), ([], []), ([], []), ([5, 6], [5, 6]), ([7], [7]), ([8], [8]), ([4, 9], [4, 9]), ([10, 0, 1, 2, 3, 4, 5, 6, 7, 8, 9, 10], [10])])
def ij.B17 : List Nat := [0, 0, 3, 7, 15, 0, 0, 96, 224, 480, 1023, 2047]
theorem ij.tab17 : rtab .any (opsOf Try.f5 17) = ij.T17 := by kernel_rfl
theorem ij.bits17 : waitsOk ij.T17.2 ij.B17 = true := by kernel_rfl
def ij.T18 : Bool × List (List Nat × List Nat) := (true, [([], []), ([0], [0]), ([1], [1]), ([], []), ([3, 1], [3]), ([4], [4]), ([2, 5], [2, 5]), ([], []), ([6, 7], [6, 7]), ([8, 4, 0, 1, 2, 3, 4, 5, 6, 7, 8], [8])])
def ij.B18 : List Nat := [0, 1, 3, 0, 11, 27, 63, 0, 255, 511]
theorem ij.tab18 : rtab .any (opsOf Try.f5 18) = ij.T18 := by kernel_rfl
theorem ij.bits18 : waitsOk ij.T18.2 ij.B18 = true := by kernel_rfl
def SameTo (xa xb : List (List Int)) (s : Bool) (i : Nat) : Prop := (s = true → xa.length = xb.length ∧ ∀ j, j < i → xa.getD j [] = xb.getD j []) ∧ (s = false → xa ≠ xb)
theorem same_start (xa xb : List (List Int)) : SameTo xa xb ((xa.length : Int) == (xb.length : Int)) 0 := by
  refine ⟨fun h => ⟨by have := beq_iff_eq.1 h; omega, fun j hj => by omega⟩, fun h e => ?_⟩
  rw [e] at h
  simp at h
theorem same_all {xa xb : List (List Int)} {i : Nat} (h : xa.length = xb.length ∧ ∀ j, j < i → xa.getD j [] = xb.getD j []) (hi : ¬ i < xa.length) : xa = xb := by
  apply List.ext_getElem h.1
  intro j h1 h2
  have := h.2 j (by omega)
  simpa [List.getD, h1, h2] using this
theorem str_inj {a b : List Int} (ha : ∀ y ∈ a, 0 ≤ y ∧ y < 256) (hb : ∀ y ∈ b, 0 ≤ y ∧ y < 256) (h : (strOfNums a).toList = (strOfNums b).toList) : a = b := by
  rw [Lib.strOfNums_toList, Lib.strOfNums_toList] at h
  unfold Lib.bytesOf at h
  induction a generalizing b with
  | nil => cases b with
    | nil => rfl
    | cons y b => simp at h
  | cons x a ih => cases b with
    | nil => simp at h
    | cons y b =>
      simp only [List.map_cons, List.cons.injEq] at h
      have hx := ha x (by simp)
      have hy := hb y (by simp)
      have e : x = y := by
        have := congrArg UInt8.toNat h.1
        simp [UInt8.toNat_ofNat'] at this
        omega
      rw [e, ih (fun z hz => ha z (by simp [hz])) (fun z hz => hb z (by simp [hz])) h.2]
theorem be1_rng (n j : Int) : 0 ≤ be1 n j ∧ be1 n j < 256 := by unfold be1; omega
theorem be1_0 {n : Int} (h0 : 0 ≤ n) (h1 : n < 65536) : be1 n 0 = n % 256 := by unfold be1 shr; rw [u64w h0 (by omega)]; simp
theorem be1_1 {n : Int} (h0 : 0 ≤ n) (h1 : n < 65536) : be1 n 1 = n / 256 % 256 := by unfold be1 shr; rw [u64w h0 (by omega)]; simp [IntKind.bits]
theorem be8_inj {n m : Nat} (hn : n < 65536) (hm : m < 65536) (h : be8 (n : Int) = be8 (m : Int)) : n = m := by
  unfold be8 at h
  simp only [List.cons.injEq] at h
  obtain ⟨_, _, _, _, _, _, h1, h0, _⟩ := h
  rw [be1_1 (by omega) (by omega), be1_1 (by omega) (by omega)] at h1
  rw [be1_0 (by omega) (by omega), be1_0 (by omega) (by omega)] at h0
  omega
theorem frame_rng {l : List (List Int)} (h : ∀ x ∈ l, ∀ y ∈ x, 0 ≤ y ∧ y < 256) : ∀ y ∈ frameOf l, 0 ≤ y ∧ y < 256 := by
  intro y hy
  unfold frameOf at hy
  obtain ⟨x, hx, hyx⟩ := List.mem_flatMap.1 hy
  rcases List.mem_append.1 hyx with hy | hy
  · unfold be8 at hy
    simp only [List.mem_cons, List.not_mem_nil, or_false] at hy
    rcases hy with rfl | rfl | rfl | rfl | rfl | rfl | rfl | rfl <;> exact be1_rng _ _
  · exact h x hx y hy
theorem frame_inj0 : ∀ {a b : List (List Int)}, (∀ x ∈ a, x.length < 65536) → (∀ x ∈ b, x.length < 65536) → frameOf a = frameOf b → a = b
  | [], [], _, _, _ => rfl
  | [], y :: b, _, _, h => by have := congrArg List.length h; simp [frameOf, be8] at this
  | x :: a, [], _, _, h => by have := congrArg List.length h; simp [frameOf, be8] at this
  | x :: a, y :: b, ha, hb, h => by
    unfold frameOf at h
    rw [List.flatMap_cons, List.flatMap_cons, List.append_assoc, List.append_assoc] at h
    obtain ⟨h1, h2⟩ := List.append_inj h (by simp [be8])
    have hl := be8_inj (ha x (by simp)) (hb y (by simp)) h1
    obtain ⟨h3, h4⟩ := List.append_inj h2 hl
    rw [h3, frame_inj0 (fun z hz => ha z (by simp [hz])) (fun z hz => hb z (by simp [hz])) h4]
theorem frame_inj {a b : List (List Int)} (ha : a.length ≤ 20 ∧ ∀ x ∈ a, x.length ≤ 6000 ∧ ∀ y ∈ x, 0 ≤ y ∧ y < 256) (hb : b.length ≤ 20 ∧ ∀ x ∈ b, x.length ≤ 6000 ∧ ∀ y ∈ x, 0 ≤ y ∧ y < 256) (h : (strOfNums (frameOf a)).toList = (strOfNums (frameOf b)).toList) : a = b :=
  frame_inj0 (fun x hx => by have := (ha.2 x hx).1; omega) (fun x hx => by have := (hb.2 x hx).1; omega) (str_inj (frame_rng fun x hx => (ha.2 x hx).2) (frame_rng fun x hx => (hb.2 x hx).2) h)

theorem kk_bd (a : Int) (L : Nat) (hL : (L : Int) ≤ 6000) : ∃ m : Nat, (wrap64 (wrap64 (a.tmod ((L : Int) + 1) + (L : Int)) + 1)).tmod ((L : Int) + 1) = (m : Int) ∧ m ≤ L := by
  have hb : -((L : Int) + 1) < a.tmod ((L : Int) + 1) ∧ a.tmod ((L : Int) + 1) < (L : Int) + 1 := by
    have hp : 0 < (L : Int) + 1 := by omega
    rcases Int.le_total 0 a with h | h
    · rw [Int.tmod_eq_emod_of_nonneg h]
      have := Int.emod_nonneg a (show (L : Int) + 1 ≠ 0 by omega)
      have := Int.emod_lt_of_pos a hp
      omega
    · obtain ⟨b, rfl⟩ : ∃ b : Int, a = -b := ⟨-a, by omega⟩
      rw [Int.neg_tmod, Int.tmod_eq_emod_of_nonneg (by omega)]
      have := Int.emod_nonneg b (show (L : Int) + 1 ≠ 0 by omega)
      have := Int.emod_lt_of_pos b hp
      omega
  generalize a.tmod ((L : Int) + 1) = x at hb
  rw [w64 (n := x + L) (by omega) (by omega), w64 (by omega) (by omega), Int.tmod_eq_emod_of_nonneg (by omega)]
  have h1 := Int.emod_nonneg (x + L + 1) (show (L : Int) + 1 ≠ 0 by omega)
  have h2 := Int.emod_lt_of_pos (x + L + 1) (show 0 < (L : Int) + 1 by omega)
  exact ⟨((x + L + 1) % ((L : Int) + 1)).toNat, by omega, by omega⟩
theorem two_good {xs : List Int} {m : Nat} (h : ∀ y ∈ xs, 0 ≤ y ∧ y < 256) (hl : (xs.length : Int) ≤ 6000) : ∀ x ∈ [xs.take m, xs.drop m], x.length ≤ 6000 ∧ ∀ y ∈ x, 0 ≤ y ∧ y < 256 := by
  intro x hx
  simp only [List.mem_cons, List.not_mem_nil, or_false] at hx
  rcases hx with rfl | rfl
  · exact ⟨by rw [List.length_take]; omega, fun y hy => h y (List.mem_of_mem_take hy)⟩
  · exact ⟨by rw [List.length_drop]; omega, fun y hy => h y (List.mem_of_mem_drop hy)⟩

theorem css_bd {l : List (List Int)} (hw : l.length ≤ maxLen ∧ ∀ x ∈ l, x.length ≤ maxLen ∧ ∀ y ∈ x, (Lit.int .u8 y).wf = true) : ∀ x ∈ cutOf l, ∀ y ∈ x, 0 ≤ y ∧ y < 256 := by
  intro x hx y hy
  unfold cutOf at hx
  obtain ⟨z, hz, rfl⟩ := List.mem_map.1 hx
  have h := (hw.2 z (List.mem_of_mem_take hz)).2 y (List.mem_of_mem_take hy)
  simp [Lit.wf, IntKind.min, IntKind.max, IntKind.signed, IntKind.bits] at h
  omega
theorem flat_step (xa : List (List Int)) (i : Int) (h0 : 0 ≤ i) (h1 : i < (xa.length : Int)) : (xa.take (i.toNat + 1)).flatten = (xa.take i.toNat).flatten ++ rd_L1 xa i := by
  have hi : i.toNat < xa.length := by omega
  have er : rd_L1 xa i = xa[i.toNat] := by simp [rd_L1, List.getD, hi]
  rw [er, List.take_succ_eq_append_getElem hi, List.flatten_append]
  simp
theorem flat_le (xa : List (List Int)) (h : xa.length ≤ 20) (hi : ∀ x ∈ xa, x.length ≤ 300) (n : Nat) : ((xa.take n).flatten).length ≤ 6000 := by
  have := flat_len (fun x : List Int => x) 300 (xa.take n) (fun x hx => hi x (List.mem_of_mem_take hx))
  have e : (xa.take n).flatMap (fun x : List Int => x) = (xa.take n).flatten := by simp [List.flatMap]
  rw [e] at this
  have hl : (xa.take n).length ≤ 20 := by simp; omega
  have : (xa.take n).length * 300 ≤ 20 * 300 := Nat.mul_le_mul_right _ hl
  omega
theorem same_next {xa xb : List (List Int)} {i : Nat} {s : Bool} (h : SameTo xa xb true i) (ha : i < xa.length) (hb : i < xb.length) (ga : xa.length ≤ 20 ∧ ∀ x ∈ xa, x.length ≤ 6000 ∧ ∀ y ∈ x, 0 ≤ y ∧ y < 256) (gb : xb.length ≤ 20 ∧ ∀ x ∈ xb, x.length ≤ 6000 ∧ ∀ y ∈ x, 0 ≤ y ∧ y < 256)
    (hs : s = ((strOfNums (rd_L1 xa (i : Int))).toList == (strOfNums (rd_L1 xb (i : Int))).toList)) : SameTo xa xb s (i + 1) := by
  have e1 : rd_L1 xa (i : Int) = xa[i] := by simp [rd_L1, List.getD, ha]
  have e2 : rd_L1 xb (i : Int) = xb[i] := by simp [rd_L1, List.getD, hb]
  rw [e1, e2] at hs
  obtain ⟨hl, hj⟩ := h.1 rfl
  refine ⟨fun ht => ⟨hl, fun j hji => ?_⟩, fun hf he => ?_⟩
  · rcases Nat.lt_succ_iff_lt_or_eq.1 hji with h | rfl
    · exact hj j h
    · rw [ht] at hs
      have := str_inj (ga.2 _ (List.getElem_mem ha)).2 (gb.2 _ (List.getElem_mem hb)).2 (beq_iff_eq.1 hs.symm)
      simpa [List.getD, ha, hb] using this
  · subst he
    rw [hf] at hs
    simp at hs

set_option maxHeartbeats 8000000 in
set_option maxRecDepth 100000 in
theorem walk0 (k : Nat) (A0 : Option Addr) (c0 : Nat) (l0 : List (List Int)) (A1 : Option Addr) (c1 : Nat) (l1 : List (List Int)) (a2 a3 : Int) (t216 t219 : List (List Int)) (w : World) (hr0 : Kd.C (Kd.slice 5 (Kd.int .u8)) w A0 l0.length l0) (hc0 : l0.length ≤ c0) (hr1 : Kd.C (Kd.slice 5 (Kd.int .u8)) w A1 l1.length l1) (hc1 : l1.length ≤ c1)
    (A5 : Aside0 (flagstonelaw2_awake.f k = some true)) (A7 : Aside0 (flagstonelaw2_cut.f k l0 = some t216)) (A8 : Aside0 (flagstonelaw2_cut.f k l1 = some t219)) (G0 : Aside0 (t216.length ≤ 20 ∧ ∀ x ∈ t216, x.length ≤ 300 ∧ ∀ y ∈ x, 0 ≤ y ∧ y < 256)) (G1 : Aside0 (t219.length ≤ 20 ∧ ∀ x ∈ t219, x.length ≤ 300 ∧ ∀ y ∈ x, 0 ≤ y ∧ y < 256)) :
    Calls Try.prog 5 #[.slice A0 l0.length c0, .slice A1 l1.length c1, .int .i64 a2, .int .i64 a3] w fun e w' => e = .returned (.bool true) ∧ Below w.heap.size w w' := by
  have HR0 := Aside0.mk hr0
  have HC0 := Aside0.mk hc0
  have HR1 := Aside0.mk hr1
  have HC1 := Aside0.mk hc1
  clear hr0 hc0 hr1 hc1
  have HB := Aside0.mk (Below.refl w.heap.size w)
  go_enter Try.func5, Try.ntmps5
  go_upto_if 22 with (first | ((with_reducible refine gate_callee (f := 8) rfl ?_); refine goesL_ (some 14) rfl rfl Try.func8 (by kernel_rfl) rfl #[] rfl (by (try simp only [List.map_toArray, List.map_cons, List.map_nil]); first | done | rfl | (simp only [List.length_drop, List.length_take]; rfl)) ?_; (with_reducible refine (flagstonelaw2_awake.calls k  true _ A5.out).mono ?_); rintro e w10 ⟨rfl, hb⟩; refine ⟨_, rfl, ?_⟩; have n0_ := Aside0.mk (below_step (by repeat (first | (with_reducible first | exact HB.out | apply below_alloc | apply pw_below_drewN | apply below_drew1) | exact HB.out)) hb); clear HB; have HB := n0_; clear n0_; (try clear hb); (try clear hb2); (try clear hk); (try clear hi)) | ((with_reducible refine gate_callee (f := 11) rfl ?_); refine goesL_ (some 17) rfl rfl Try.func11 (by kernel_rfl) rfl #[.slice A0 l0.length c0] rfl (by (try simp only [List.map_toArray, List.map_cons, List.map_nil]); first | done | rfl | (simp only [List.length_drop, List.length_take]; rfl)) ?_; (with_reducible refine (flagstonelaw2_cut.calls k (fun k_ => k_ < w.heap.size) _ _ l0 t216 _ ?side1 A7.out).mono ?_); (case side1 => exact Kd.V_mk HC0.out (Kd.F_below (Kd.C_F (Kd.heap_slice 5 (Kd.heap_int .u8)) HR0.out) (by repeat (first | (with_reducible first | exact HB.out | apply below_alloc | apply pw_below_drewN | apply below_drew1) | exact HB.out)))); rintro e w11 ⟨v217, rfl, ho0, hb⟩; refine ⟨_, rfl, ?_⟩; have n0_ := Aside0.mk (Kd.N_lower (Kd.N_mono (ok' := fun k_ => True) ho0 (fun k_ hk_ => trivial)) (below_size (by repeat (first | (with_reducible first | exact HB.out | apply below_alloc | apply pw_below_drewN | apply below_drew1) | exact HB.out)))); have n1_ := Aside0.mk (below_step (by repeat (first | (with_reducible first | exact HB.out | apply below_alloc | apply pw_below_drewN | apply below_drew1) | exact HB.out)) hb); clear HB; have HO218 := n0_; have HB := n1_; clear n0_ n1_; (try clear hb); (try clear hb2); (try clear hk); (try clear hi); (try clear ho0)) | ((with_reducible refine gate_callee (f := 11) rfl ?_); refine goesL_ (some 19) rfl rfl Try.func11 (by kernel_rfl) rfl #[.slice A1 l1.length c1] rfl (by (try simp only [List.map_toArray, List.map_cons, List.map_nil]); first | done | rfl | (simp only [List.length_drop, List.length_take]; rfl)) ?_; (with_reducible refine (flagstonelaw2_cut.calls k (fun k_ => k_ < w.heap.size) _ _ l1 t219 _ ?side1 A8.out).mono ?_); (case side1 => exact Kd.V_mk HC1.out (Kd.F_below (Kd.C_F (Kd.heap_slice 5 (Kd.heap_int .u8)) HR1.out) (by repeat (first | (with_reducible first | exact HB.out | apply below_alloc | apply pw_below_drewN | apply below_drew1) | exact HB.out)))); rintro e w12 ⟨v220, rfl, ho0, hb⟩; refine ⟨_, rfl, ?_⟩; have n0_ := Aside0.mk (Kd.N_elder' (by (with_reducible repeat (first | apply Kd.N_alloc | apply Kd.N_drewN | apply Kd.N_drew)); exact HO218.out) (Kd.N_base ho0) hb); have n1_ := Aside0.mk (Kd.N_lower (Kd.N_mono (ok' := fun k_ => some k_ ≠ (v217 : Value).ownBlock) ho0 (fun k_ hk_ => Or.elim hk_ (fun hs_ => fun e_ => Nat.not_le.2 hs_ (Kd.N_base HO218.out k_ e_.symm)) (fun hn_ => (Kd.fresh' (Kd.N_lt (by (with_reducible repeat (first | apply Kd.N_alloc | apply Kd.N_drewN | apply Kd.N_drew)); exact HO218.out)) k_ hn_)))) (below_size (by repeat (first | (with_reducible first | exact HB.out | apply below_alloc | apply pw_below_drewN | apply below_drew1) | exact HB.out)))); have n2_ := Aside0.mk (below_step (by repeat (first | (with_reducible first | exact HB.out | apply below_alloc | apply pw_below_drewN | apply below_drew1) | exact HB.out)) hb); clear HO218; clear HB; have HO218 := n0_; have HO221 := n1_; have HB := n2_; clear n0_ n1_ n2_; (try clear hb); (try clear hb2); (try clear hk); (try clear hi); (try clear ho0); obtain ⟨Ao13, co13, eo13⟩ := Kd.N_slice HO218.out; subst eo13))
  (try simp only [Act.put, List.setIfInBounds_toArray, List.set_cons_zero, List.set_cons_succ])
  go_cut [1] (fun v1 wc => ∃ (Ab : Option Addr) (cb : Nat) (xb : List (List Int)), v1 = .slice Ab xb.length cb ∧ Aside0 (xb.length ≤ 20 ∧ ∀ x ∈ xb, x.length ≤ 6000 ∧ ∀ y ∈ x, 0 ≤ y ∧ y < 256) ∧ Aside0 (t216.length ≤ co13 ∧ Kd.C (Kd.slice 5 (Kd.int .u8)) wc Ao13 t216.length t216) ∧ Aside0 (xb.length ≤ cb ∧ Kd.C (Kd.slice 5 (Kd.int .u8)) wc Ab xb.length xb) ∧ Aside0 (Below w.heap.size w wc))
  case first =>
    by_cases c14 : 0 < t216.length
    · have c14b1 : decide (0 < t216.length) = true := decide_eq_true c14
      have c14b0 : decide (0 < (t216.length : Int)) = true := decide_eq_true (by omega)
      (first | rw [c14b1] | rw [c14b0])
      go_wp2_with fail
      have ho16 : Kd.R (Kd.int .u8) 5 (w12.alloc (.cells #[] 5)) w12.heap.size (fun _ => True) (.slice (some ⟨w12.heap.size, 0, none⟩) 0 0) ([] : List Int) := ⟨fun _ _ => trivial, [], own_lit w12 w12.heap.size 5 .u8 [] (Nat.le_refl _) (by simp), Reps.none _ _⟩
      have hb : Below w12.heap.size w12 (w12.alloc (.cells #[] 5)) := below_alloc (Below.refl _ _) _
      generalize (Value.slice (some ⟨w12.heap.size, 0, none⟩) 0 0) = v223 at ho16 ⊢
      generalize w12.alloc (.cells #[] 5) = w15 at ho16 hb ⊢
      have n0_ := Aside0.mk (Kd.N_elder' HO218.out (Kd.R_base ho16) hb)
      have n1_ := Aside0.mk (Kd.N_elder' HO221.out (Kd.R_base ho16) hb)
      have n2_ := Aside0.mk (Kd.R_lower ho16 (below_size HB.out))
      have n3_ := Aside0.mk (below_step HB.out hb)
      clear HO218 HO221 HB hb ho16
      have HO218 := n0_
      have HO221 := n1_
      have HO224 := n2_
      have HB := n3_
      clear n0_ n1_ n2_ n3_
      go_loopw [9, 10] (fun v9 v10 w' => ∃ (x9_1 : List Int) (x10_1 : Int), v10 = .int .i64 x10_1 ∧ Aside0 (0 ≤ x10_1 ∧ x10_1 ≤ (t216.length : Int) ∧ x9_1 = (t216.take x10_1.toNat).flatten) ∧ Aside0 (Kd.N (Kd.slice 5 (Kd.int .u8)) 23 w' w.heap.size (fun k_ => some k_ ≠ (v220 : Value).ownBlock ∧ some k_ ≠ (v9 : Value).ownBlock) (.slice Ao13 t216.length co13) t216) ∧ Aside0 (Kd.N (Kd.slice 5 (Kd.int .u8)) 23 w' w.heap.size (fun k_ => some k_ ≠ ((.slice Ao13 t216.length co13) : Value).ownBlock ∧ some k_ ≠ (v9 : Value).ownBlock) v220 t219) ∧ Aside0 (Kd.R (Kd.int .u8) 5 w' w.heap.size (fun _ => True) v9 x9_1) ∧ Aside0 (Below w.heap.size w w')) (fun _ v _ => t216.length - (intOf v).toNat)
      case atStart => exact ⟨[], 0, rfl, ⟨by omega, by omega, by simp⟩, ⟨Kd.N_mono HO218.out (fun _ hk => ⟨hk.1.2, hk.2⟩)⟩, HO221, HO224, HB⟩
      case round =>
        clear HO218 HO221 HO224 HB c14b0 c14b1
        obtain ⟨x9_1, x10_1, rfl, HI, HO_0, HO_1, HO_9, HB⟩ := hrel
        have hlen : (t216.length : Int) ≤ 20 := by have := G0.out.1; omega
        by_cases c17 : x10_1 < (t216.length : Int)
        · have c18 := HI.out.1
          have c17b0 : decide (x10_1 < (t216.length : Int)) = true := decide_eq_true c17
          have c18b0 : decide (0 ≤ x10_1) = true := decide_eq_true c18
          have hxl : x9_1.length ≤ 6000 := by rw [HI.out.2.2]; exact flat_le t216 G0.out.1 (fun x hx => (G0.out.2 x hx).1) _
          have hrl : (rd_L1 t216 x10_1).length ≤ 300 := by
            have hi : x10_1.toNat < t216.length := by omega
            rw [show rd_L1 t216 x10_1 = t216[x10_1.toNat] from by simp [rd_L1, List.getD, hi]]
            exact (G0.out.2 _ (List.getElem_mem hi)).1
          have LMc19 : Aside0 (x9_1.length + (rd_L1 t216 x10_1).length < 140737488355328) := ⟨by omega⟩
          obtain ⟨y226, hy226⟩ : ∃ y_ : List Int, y_ = (x9_1 ++ (rd_L1 t216 x10_1)) := ⟨_, rfl⟩
          have Ny226 := Aside0.mk hy226
          have HY : Aside0 (y226 = (t216.take (x10_1 + 1).toNat).flatten) := ⟨by rw [hy226, HI.out.2.2, show (x10_1 + 1).toNat = x10_1.toNat + 1 from by omega, flat_step t216 x10_1 c18 c17]⟩
          clear hy226 hxl hrl
          have p225 : 0 ≤ (x10_1 : Int) := of_decide_eq_true (by first | (with_reducible assumption) | assumption)
          have q225 : x10_1 < (t216.length : Int) := of_decide_eq_true (by first | (with_reducible assumption) | assumption)
          obtain ⟨ad225, A225_0, c225_0, e225, hx225_0, hl225_0, hi225_0⟩ := at_L1 (Kd.N_reads' HO_0.out).2.2 x10_1 p225 q225
          cases e225
          obtain ⟨ce225, hce225, hMe225, hcc225⟩ := Kd.N_get HO_0.out [] x10_1 p225 (by first | exact q225 | exact of_decide_eq_true (by first | (with_reducible assumption) | assumption) | (have e_ := (Kd.N_reads' HO_0.out).1; omega))
          obtain ⟨ua225_0, uc225_0, rfl, ul225_0, ge225_0⟩ := Kd.FK_slice_open hMe225
          have hv225_0 := hcc225 0 _ rfl
          rw [Nat.add_zero, show ((Kd.slice 5 (Kd.int .u8))).sz = 1 from rfl, Nat.mul_one] at hv225_0
          replace hv225_0 := Option.some.inj (hv225_0.symm.trans hx225_0)
          injection hv225_0 with hva_ hvn_ hvc_
          rw [hva_] at ge225_0
          rw [hvc_] at ul225_0
          have HL225_0 := Aside0.mk (show Kd.V (Kd.int .u8) 5 _ w.heap.size _ _ (rd_L1 t216 x10_1) from Kd.V_mk ul225_0 ge225_0)
          clear hva_ hvn_ hvc_ ge225_0 ul225_0
          clear hcc225 hce225
          have HR225_0 := Aside0.mk hi225_0
          have HC225_0 := Aside0.mk hl225_0
          clear hi225_0 hl225_0
          replace p225 := eq_true p225
          replace q225 := eq_true q225
          go_wp2_with (first | ((with_reducible refine gate_builtin (b := .append) (xs := #[.tmp 30, .tmp 34]) rfl ?_); (try (refine gate_guard (by rfl) ?_; dsimp only)); at_builtin; refine Kd.R_append_rows (Kd.int .u8) (w0 := w) w.heap.size rfl (.tmp 30) (.tmp 34) 23 5 (.int .u8 0) 1 rfl Try.underlying23 info5 rfl (by decide) (by omega) u9 x9_1 (rd_L1 t216 x10_1) _ _ _ (fun _ => True) (fun _ => False) rfl rfl ?aO ?aR (fun _ _ h => h) (fun _ h => h.elim) ?aF ?aB ?aS ?aL ?_; (case aR => repeat (first | exact (by repeat (first | (with_reducible exact HR225_0.out) | (with_reducible refine Kd.C_alloc ?_ _) | (with_reducible refine Kd.C_drewN ?_ _) | (with_reducible refine Kd.C_drew ?_) | exact HR225_0.out)) | (with_reducible refine Kd.C_alloc ?_ _) | (with_reducible refine Kd.C_drewN ?_ _) | (with_reducible refine Kd.C_drew ?_))); (case aB => exact (by repeat (first | (with_reducible first | exact HB.out | apply below_alloc | apply pw_below_drewN | apply below_drew1) | exact HB.out))); (case aF => exact (fun _ _ => trivial)); (case aO => exact (by (with_reducible repeat (first | apply Kd.R_alloc | apply Kd.R_drewN | apply Kd.R_drew)); exact HO_9.out)); (case aS => exact (below_size (by repeat (first | (with_reducible first | exact HB.out | apply below_alloc | apply pw_below_drewN | apply below_drew1) | exact HB.out)))); (case aL => have := LMc19.out; omega); intro v227 w20 ho hb hg hat; rw [← Ny226.out] at ho; have n0_ := Aside0.mk (Kd.N_afterv (ok := (fun k_ => some k_ ≠ (v220 : Value).ownBlock)) (by (with_reducible repeat (first | apply Kd.N_alloc | apply Kd.N_drewN | apply Kd.N_drew)); exact HO_0.out) hg hat); have n1_ := Aside0.mk (Kd.N_afterv (ok := (fun k_ => some k_ ≠ (.slice (some ad225) t216.length co13 : Value).ownBlock)) (by (with_reducible repeat (first | apply Kd.N_alloc | apply Kd.N_drewN | apply Kd.N_drew)); exact HO_1.out) hg hat); have n2_ := Aside0.mk (Kd.V_afterv (ok := (fun k_ => some k_ ≠ (.slice (some ad225) t216.length co13 : Value).ownBlock ∧ some k_ ≠ (v220 : Value).ownBlock)) (by (with_reducible repeat (first | apply Kd.V_alloc | apply Kd.V_drewN | apply Kd.V_drew)); exact Kd.V_mono HL225_0.out (fun _ hk => ⟨⟨hk.2, hk.1.1⟩, hk.1.2⟩)) hg hat); have n3_ := Aside0.mk (hb); have n4_ := Aside0.mk (ho); clear HO_0; clear HO_1; clear HL225_0; clear HB; clear HO_9; have HO_0 := n0_; have HO_1 := n1_; have HL225_0 := n2_; have HB := n3_; have HO228 := n4_; clear n0_ n1_ n2_ n3_ n4_; clear ho hb hg hat))
          go_roundw
          case rel => first | exact ⟨y226, x10_1 + 1, rfl, ⟨by have := HI.out; omega, by omega, HY.out⟩, HO_0, HO_1, HO228, HB⟩ | ((repeat apply Exists.intro); exact ⟨⟨y226, x10_1 + 1, rfl, ⟨by have := HI.out; omega, by omega, HY.out⟩, HO_0, HO_1, HO228, HB⟩, rfl⟩)
          case measure => have := HI.out.1; simp [intOf]; omega
        · have hfl : Aside0 (x9_1 = t216.flatten) := ⟨by have := HI.out; rw [this.2.2, List.take_of_length_le (by omega)]⟩
          have hxl : (x9_1.length : Int) ≤ 6000 := by have := flat_le t216 G0.out.1 (fun x hx => (G0.out.2 x hx).1) x10_1.toNat; rw [← HI.out.2.2] at this; omega
          obtain ⟨Ax, cx, e1⟩ := Kd.R_slice HO_9.out
          subst e1
          have RX := Aside0.mk (Kd.R_reads' HO_9.out).2
          have RA := Aside0.mk (Kd.N_reads' HO_0.out).2
          obtain ⟨Ab, cb, e1⟩ := Kd.N_slice HO_1.out
          subst e1
          have RB := Aside0.mk (Kd.N_reads' HO_1.out).2
          clear HO_0 HO_1 HO_9
          have hz : (((x9_1.length : Int) + 1) == 0) = false := beq_eq_false_iff_ne.2 (by omega)
          by_cases h3 : Int.tmod a3 2 = 0
          · have h3b : (Int.tmod a3 2 == 0) = true := beq_iff_eq.2 h3
            go_wp2
            obtain ⟨m, hm, hmle⟩ := kk_bd a2 x9_1.length hxl
            rw [hm]
            clear hm h3 h3b hz
            have hcx : x9_1.length ≤ cx := RX.out.1
            have hmc : m ≤ cx := Nat.le_trans hmle hcx
            have HTL : Aside0 ((x9_1.take m).length = m) := ⟨by rw [List.length_take]; omega⟩
            have HDL : Aside0 ((x9_1.drop m).length = x9_1.length - m) := ⟨by rw [List.length_drop]⟩
            have HT1 : Aside0 ((x9_1.take m).length ≤ cx ∧ Kd.C (Kd.int .u8) wr Ax (x9_1.take m).length (x9_1.take m)) := ⟨by rw [HTL.out]; exact hmc, Kd.C_take RX.out.2 hmle⟩
            have HT2 : Aside0 ((x9_1.drop m).length ≤ cx - m ∧ Kd.C (Kd.int .u8) wr (if cx = m then Ax else Ax.map (·.add (m * 1))) (x9_1.drop m).length (x9_1.drop m)) := ⟨by rw [HDL.out]; omega, Kd.C_drop RX.out.2 hmle hcx⟩
            have HGX : Aside0 (∀ y ∈ x9_1, 0 ≤ y ∧ y < 256) := ⟨by rw [hfl.out]; intro y hy; obtain ⟨z, hz, hyz⟩ := List.mem_flatten.1 hy; exact (G0.out.2 z hz).2 y hyz⟩
            have HLX := Aside0.mk hxl
            refine free_ (n := 8) (T := ij.T12) (B := ij.B12) (ent := [(0, 52), (1, 53), (2, 54), (3, 55), (4, 56), (5, 57), (6, 58), (7, 1)]) (F := fun i_ v_ w_ => (([(.val (.slice Ax x9_1.length cx)), (.val (.int .i64 (m : Int))), (.cs (x9_1.take m)), (.val (.slice Ax x9_1.length cx)), (.val (.int .i64 (m : Int))), (.cs (x9_1.drop m)), (.css 5 [x9_1.take m, x9_1.drop m]), (.css 5 [x9_1.take m, x9_1.drop m])] : List Tells).getD i_ (.val undef)).holds v_ w_) [0, 1, 2, 3, 4, 5, 6, 7] (by kernel_rfl) rfl ij.tab12 ij.bits12 (by kernel_rfl) (by kernel_rfl) (by decide) (by decide) (by decide) rfl (fun i v w_ w2_ h_ hb_ => by exact Tells.keep h_ hb_) (below_drew1 (Below.refl _ _)) ?_ ?_
            · skip
              refine stp_cons (fun V a W hB hd ho => ?_) ?_
              · have e9 := (ho 9 (by decide)).trans (show _ = some (.slice Ax x9_1.length cx) from rfl)
                clear hd ho
                refine ⟨_, 52, rfl, by decide, fun K hK => ?_⟩
                refine value_ (w1 := W) (v := (.slice Ax x9_1.length cx)) (by rfl) rfl ?_ (hK _ _ (Below.refl _ _) rfl)
                go_simp
                try rfl
              refine stp_cons (fun V a W hB hd ho => ?_) ?_
              · have e11 := (ho 11 (by decide)).trans (show _ = some (.int .i64 (m : Int)) from rfl)
                clear hd ho
                refine ⟨_, 53, rfl, by decide, fun K hK => ?_⟩
                refine value_ (w1 := W) (v := (.int .i64 (m : Int))) (by rfl) rfl ?_ (hK _ _ (Below.refl _ _) rfl)
                go_simp
                try rfl
              refine stp_cons (fun V a W hB hd ho => ?_) ?_
              · obtain ⟨e52, s52⟩ := hd 0 52 (by decide) (by kernel_rfl)
                rw [show V 0 = (.slice Ax x9_1.length cx) from s52] at e52
                clear s52
                obtain ⟨e53, s53⟩ := hd 1 53 (by decide) (by kernel_rfl)
                rw [show V 1 = (.int .i64 (m : Int)) from s53] at e53
                clear s53
                clear hd ho
                refine ⟨_, 54, rfl, by decide, fun K hK => ?_⟩
                refine value_ (w1 := W) (v := .slice Ax (x9_1.take m).length cx) (by rfl) rfl ?_ (hK _ _ (Below.refl _ _) ⟨_, _, rfl, HT1.out.1, Kd.C_below HT1.out.2 hB⟩)
                rw [HTL.out]
                go_simp
                try rfl
              refine stp_cons (fun V a W hB hd ho => ?_) ?_
              · have e9 := (ho 9 (by decide)).trans (show _ = some (.slice Ax x9_1.length cx) from rfl)
                clear hd ho
                refine ⟨_, 55, rfl, by decide, fun K hK => ?_⟩
                refine value_ (w1 := W) (v := (.slice Ax x9_1.length cx)) (by rfl) rfl ?_ (hK _ _ (Below.refl _ _) rfl)
                go_simp
                try rfl
              refine stp_cons (fun V a W hB hd ho => ?_) ?_
              · have e11 := (ho 11 (by decide)).trans (show _ = some (.int .i64 (m : Int)) from rfl)
                clear hd ho
                refine ⟨_, 56, rfl, by decide, fun K hK => ?_⟩
                refine value_ (w1 := W) (v := (.int .i64 (m : Int))) (by rfl) rfl ?_ (hK _ _ (Below.refl _ _) rfl)
                go_simp
                try rfl
              refine stp_cons (fun V a W hB hd ho => ?_) ?_
              · obtain ⟨e55, s55⟩ := hd 3 55 (by decide) (by kernel_rfl)
                rw [show V 3 = (.slice Ax x9_1.length cx) from s55] at e55
                clear s55
                obtain ⟨e56, s56⟩ := hd 4 56 (by decide) (by kernel_rfl)
                rw [show V 4 = (.int .i64 (m : Int)) from s56] at e56
                clear s56
                clear hd ho
                refine ⟨_, 57, rfl, by decide, fun K hK => ?_⟩
                refine value_ (w1 := W) (v := .slice (if cx = m then Ax else Ax.map (·.add (m * 1))) (x9_1.drop m).length (cx - m)) (by rfl) rfl ?_ (hK _ _ (Below.refl _ _) ⟨_, _, rfl, HT2.out.1, Kd.C_below HT2.out.2 hB⟩)
                rw [HDL.out]
                go_simp
                trace_state
                try rfl
              refine stp_cons (fun V a W hB hd ho => ?_) ?_
              · obtain ⟨e54, s54⟩ := hd 2 54 (by decide) (by kernel_rfl)
                obtain ⟨e57, s57⟩ := hd 5 57 (by decide) (by kernel_rfl)
                clear hd ho
                refine ⟨_, 58, rfl, by decide, fun K hK => ?_⟩
                obtain ⟨Aq, cq, eq_, hcq, hCq⟩ := s54
                rw [eq_] at e54
                clear eq_
                obtain ⟨Ar, cr, eq_, hcr, hCr⟩ := s57
                rw [eq_] at e57
                clear eq_
                refine value_ (w1 := W.alloc (.cells #[.slice Aq (x9_1.take m).length cq, .slice Ar (x9_1.drop m).length cr] 23)) (v := .slice (some ⟨W.heap.size, 0, none⟩) 2 2) (by rfl) rfl ?_ (hK _ _ (below_alloc (Below.refl _ _) _) ⟨_, 2, rfl, Nat.le_refl _, made2 hcq hCq hcr hCr⟩)
                go_simp
                try rfl
              refine stp_cons (fun V a W hB hd ho => ?_) ?_
              · obtain ⟨e58, s58⟩ := hd 6 58 (by decide) (by kernel_rfl)
                clear hd ho
                refine ⟨_, 1, rfl, by decide, fun K hK => ?_⟩
                obtain ⟨Aq, cq, eq_, hcq, hCq⟩ := s58
                rw [eq_] at e58
                clear eq_
                exact value_ (w1 := W) (v := .slice Aq [x9_1.take m, x9_1.drop m].length cq) (by rfl) rfl (by go_simp) (hK _ _ (Below.refl _ _) ⟨_, _, rfl, hcq, hCq⟩)
              exact stp_nil
            · intro V Wend HBr_ HV_
              have HV := fun i t hm => HV_ (i, t) hm
              clear HV_
              obtain ⟨Aq, cq, eq1, hcq, hCq⟩ := HV 7 1 (by decide)
              clear HV
              simp only [putSel, Lof, List.map_cons, List.map_nil, if_true, Act.put, List.setIfInBounds_toArray, List.set_cons_zero, List.set_cons_succ]
              rw [eq1]
              go_wp2
              go_meet
              case rel => exact ⟨Aq, cq, [x9_1.take m, x9_1.drop m], rfl, ⟨by simp, two_good HGX.out HLX.out⟩, ⟨RA.out.1, Kd.C_below RA.out.2 HBr_⟩, ⟨hcq, hCq⟩, ⟨below_step HB.out HBr_⟩⟩
          · have h3b : (Int.tmod a3 2 == 0) = false := beq_eq_false_iff_ne.2 h3
            go_wp2
            go_meet
            case rel => exact ⟨Ab, cb, t219, rfl, ⟨G1.out.1, fun x hx => ⟨by have := (G1.out.2 x hx).1; omega, (G1.out.2 x hx).2⟩⟩, RA, RB, HB⟩
    · have c14b1 : decide (0 < t216.length) = false := decide_eq_false c14
      have c14b0 : decide (0 < (t216.length : Int)) = false := decide_eq_false (by omega)
      go_wp2
      obtain ⟨Ab, cb, e1⟩ := Kd.N_slice HO221.out
      subst e1
      go_meet
      case rel => exact ⟨Ab, cb, t219, rfl, ⟨G1.out.1, fun x hx => ⟨by have := (G1.out.2 x hx).1; omega, (G1.out.2 x hx).2⟩⟩, ⟨(Kd.N_reads' HO218.out).2⟩, ⟨(Kd.N_reads' HO221.out).2⟩, HB⟩
  case rest =>
    obtain ⟨Ab, cb, xb, rfl, GB, RA, RB, HB⟩ := hcut
    have GA : Aside0 (t216.length ≤ 20 ∧ ∀ x ∈ t216, x.length ≤ 6000 ∧ ∀ y ∈ x, 0 ≤ y ∧ y < 256) := ⟨G0.out.1, fun x hx => ⟨by have := (G0.out.2 x hx).1; omega, (G0.out.2 x hx).2⟩⟩
    obtain ⟨KF, hFA, hFB⟩ : ∃ KF, digest_Frame.f KF t216 = some (frameOf t216) ∧ digest_Frame.f KF xb = some (frameOf xb) := by
      obtain ⟨K1, h1⟩ := frame_ev t216 (by have := GA.out.1; omega) (by have := frame_len t216 (by have := GA.out.1; omega) (fun x hx => by have := (GA.out.2 x hx).1; omega); omega)
      obtain ⟨K2, h2⟩ := frame_ev xb (by have := GB.out.1; omega) (by have := frame_len xb (by have := GB.out.1; omega) (fun x hx => by have := (GB.out.2 x hx).1; omega); omega)
      exact ⟨K1 + K2, h1 _ (by omega), h2 _ (by omega)⟩
    obtain ⟨FA, hfa⟩ : ∃ FA, FA = frameOf t216 := ⟨_, rfl⟩
    obtain ⟨FB, hfb⟩ : ∃ FB, FB = frameOf xb := ⟨_, rfl⟩
    rw [← hfa] at hFA
    rw [← hfb] at hFB
    have HFA := Aside0.mk hFA
    have HFB := Aside0.mk hFB
    have HSAME : ∀ s : Bool, (s = true → t216 = xb) → (s = false → t216 ≠ xb) → Aside0 (((strOfNums FA).toList == (strOfNums FB).toList) = s) := fun s h1 h2 => ⟨by
      rw [hfa, hfb]
      cases s with
      | true => rw [h1 rfl]; simp
      | false => exact beq_eq_false_iff_ne.2 (fun e => h2 rfl (frame_inj GA.out GB.out e))⟩
    have HSAM := Aside0.mk HSAME
    clear hFA hFB hfa hfb HSAME
    go_wp2
    go_loopw [12, 13] (fun v12 v13 w' => ∃ (s : Bool) (i : Nat), v12 = .bool s ∧ v13 = .int .i64 (i : Int) ∧ Aside0 (i ≤ t216.length) ∧ Aside0 (SameTo t216 xb s i) ∧ Aside0 (Below wc.heap.size wc w')) (fun _ v _ => t216.length - (intOf v).toNat)
    case atStart => exact ⟨_, 0, rfl, rfl, ⟨Nat.zero_le _⟩, ⟨same_start _ _⟩, ⟨Below.refl _ _⟩⟩
    case round =>
      obtain ⟨s, i, rfl, rfl, hi, HS, HBr⟩ := hrel
      have hlen : t216.length ≤ 20 := G0.out.1
      cases s with
      | false =>
        have HSM := HSAM.out false (fun h => by cases h) (fun _ => HS.out.2 rfl)
        have RA2 := Aside0.mk (And.intro RA.out.1 (Kd.C_below RA.out.2 HBr.out))
        have RB2 := Aside0.mk (And.intro RB.out.1 (Kd.C_below RB.out.2 HBr.out))
        clear hi
        go_wp2
        refine free_ (n := 10) (T := ij.T18) (B := ij.B18) (ent := [(0, 84), (1, 85), (2, 86), (3, 87), (4, 88), (5, 89), (6, 90), (7, 91), (8, 92), (9, 8)]) (F := fun i_ v_ w_ => (([(.css 5 t216), (.cs FA), (.val (.string (strOfNums FA))), (.css 5 xb), (.cs FB), (.val (.string (strOfNums FB))), (.val (.bool false)), (.val (.bool false)), (.val (.bool true)), (.val (.bool true))] : List Tells).getD i_ (.val undef)).holds v_ w_) [0, 1, 2, 3, 4, 5, 6, 7, 8, 9] (by kernel_rfl) rfl ij.tab18 ij.bits18 (by kernel_rfl) (by kernel_rfl) (by decide) (by decide) (by decide) rfl (fun i v w_ w2_ h_ hb_ => by exact Tells.keep h_ hb_) (below_drew1 (Below.refl _ _)) ?_ ?_
        · skip
          refine stp_cons (fun V a W hB hd ho => ?_) ?_
          · have e0 := (ho 0 (by decide)).trans (show _ = some (.slice Ao13 t216.length co13) from rfl)
            clear hd ho
            refine ⟨_, 84, rfl, by decide, fun K hK => ?_⟩
            exact value_ (w1 := W) (v := .slice Ao13 t216.length co13) (by rfl) rfl (by go_simp) (hK _ _ (Below.refl _ _) ⟨_, _, rfl, RA2.out.1, Kd.C_below RA2.out.2 hB⟩)
          refine stp_cons (fun V a W hB hd ho => ?_) ?_
          · obtain ⟨e84, s84⟩ := hd 0 84 (by decide) (by kernel_rfl)
            clear hd ho
            refine ⟨_, 85, rfl, by decide, fun K hK => ?_⟩
            obtain ⟨Aq, cq, eq_, hcq, hCq⟩ := s84
            rw [eq_] at e84
            refine goes_ Try.func12 (by kernel_rfl) rfl #[.slice Aq t216.length cq] (by rfl) rfl rfl (by simp [Act.eval, e84]) ?_
            refine (digest_Frame.calls KF Aq cq t216 FA W hCq hcq HFA.out).mono ?_
            rintro e w2_ ⟨v, rfl, hR, hb⟩
            exact ⟨_, rfl, hK _ _ hb (holds_R hR)⟩
          refine stp_cons (fun V a W hB hd ho => ?_) ?_
          · obtain ⟨e85, s85⟩ := hd 1 85 (by decide) (by kernel_rfl)
            clear hd ho
            refine ⟨_, 86, rfl, by decide, fun K hK => ?_⟩
            obtain ⟨Aq, cq, eq_, hcq, hCq⟩ := s85
            rw [eq_] at e85
            have hcv := Kd.C_string (P := Try.prog) (A := Aq) (c := cq) Try.underlying23 Try.underlying5 Try.underlying9 hCq
            clear eq_
            refine value_ (w1 := W) (v := .string (strOfNums FA)) (by rfl) rfl ?_ (hK _ _ (Below.refl _ _) rfl)
            go_simp
            try (constructor <;> rfl)
          refine stp_cons (fun V a W hB hd ho => ?_) ?_
          · have e1 := (ho 1 (by decide)).trans (show _ = some (.slice Ab xb.length cb) from rfl)
            clear hd ho
            refine ⟨_, 87, rfl, by decide, fun K hK => ?_⟩
            exact value_ (w1 := W) (v := .slice Ab xb.length cb) (by rfl) rfl (by go_simp) (hK _ _ (Below.refl _ _) ⟨_, _, rfl, RB2.out.1, Kd.C_below RB2.out.2 hB⟩)
          refine stp_cons (fun V a W hB hd ho => ?_) ?_
          · obtain ⟨e87, s87⟩ := hd 3 87 (by decide) (by kernel_rfl)
            clear hd ho
            refine ⟨_, 88, rfl, by decide, fun K hK => ?_⟩
            obtain ⟨Aq, cq, eq_, hcq, hCq⟩ := s87
            rw [eq_] at e87
            refine goes_ Try.func12 (by kernel_rfl) rfl #[.slice Aq xb.length cq] (by rfl) rfl rfl (by simp [Act.eval, e87]) ?_
            refine (digest_Frame.calls KF Aq cq xb FB W hCq hcq HFB.out).mono ?_
            rintro e w2_ ⟨v, rfl, hR, hb⟩
            exact ⟨_, rfl, hK _ _ hb (holds_R hR)⟩
          refine stp_cons (fun V a W hB hd ho => ?_) ?_
          · obtain ⟨e88, s88⟩ := hd 4 88 (by decide) (by kernel_rfl)
            clear hd ho
            refine ⟨_, 89, rfl, by decide, fun K hK => ?_⟩
            obtain ⟨Aq, cq, eq_, hcq, hCq⟩ := s88
            rw [eq_] at e88
            have hcv := Kd.C_string (P := Try.prog) (A := Aq) (c := cq) Try.underlying23 Try.underlying5 Try.underlying9 hCq
            clear eq_
            refine value_ (w1 := W) (v := .string (strOfNums FB)) (by rfl) rfl ?_ (hK _ _ (Below.refl _ _) rfl)
            go_simp
            try (constructor <;> rfl)
          refine stp_cons (fun V a W hB hd ho => ?_) ?_
          · obtain ⟨e86, s86⟩ := hd 2 86 (by decide) (by kernel_rfl)
            rw [show V 2 = (.string (strOfNums FA)) from s86] at e86
            clear s86
            obtain ⟨e89, s89⟩ := hd 5 89 (by decide) (by kernel_rfl)
            rw [show V 5 = (.string (strOfNums FB)) from s89] at e89
            clear s89
            clear hd ho
            refine ⟨_, 90, rfl, by decide, fun K hK => ?_⟩
            have hsm := HSM.out
            refine value_ (w1 := W) (v := .bool false) (by rfl) rfl ?_ (hK _ _ (Below.refl _ _) rfl)
            go_simp
            try rfl
          refine stp_cons (fun V a W hB hd ho => ?_) ?_
          · have e12 := (ho 12 (by decide)).trans (show _ = some (.bool false) from rfl)
            clear hd ho
            refine ⟨_, 91, rfl, by decide, fun K hK => ?_⟩
            refine value_ (w1 := W) (v := (.bool false)) (by rfl) rfl ?_ (hK _ _ (Below.refl _ _) rfl)
            go_simp
            try rfl
          refine stp_cons (fun V a W hB hd ho => ?_) ?_
          · obtain ⟨e90, s90⟩ := hd 6 90 (by decide) (by kernel_rfl)
            rw [show V 6 = (.bool false) from s90] at e90
            clear s90
            obtain ⟨e91, s91⟩ := hd 7 91 (by decide) (by kernel_rfl)
            rw [show V 7 = (.bool false) from s91] at e91
            clear s91
            clear hd ho
            refine ⟨_, 92, rfl, by decide, fun K hK => ?_⟩
            refine value_ (w1 := W) (v := (.bool true)) (by rfl) rfl ?_ (hK _ _ (Below.refl _ _) rfl)
            go_simp
            try rfl
          refine stp_cons (fun V a W hB hd ho => ?_) ?_
          · obtain ⟨e92, s92⟩ := hd 8 92 (by decide) (by kernel_rfl)
            rw [show V 8 = (.bool true) from s92] at e92
            clear s92
            clear hd ho
            refine ⟨_, 8, rfl, by decide, fun K hK => ?_⟩
            refine value_ (w1 := W) (v := (.bool true)) (by rfl) rfl ?_ (hK _ _ (Below.refl _ _) rfl)
            go_simp
            try rfl
          exact stp_nil
        · intro V Wend HBr_ HV_
          have HV := fun i t hm => HV_ (i, t) hm
          clear HV_
          have v8 : V 9 = .bool true := HV 9 8 (by decide)
          clear HV
          have HB2 := Aside0.mk (below_step (below_step HB.out HBr.out) HBr_)
          simp only [putSel, Lof, List.map_cons, List.map_nil, if_true, Act.put, List.setIfInBounds_toArray, List.set_cons_zero, List.set_cons_succ]
          rw [v8]
          go_wp2
          go_ret
          exact ⟨rfl, HB2.out⟩
      | true =>
        by_cases hlt : i < t216.length
        · have hlb : i < xb.length := by have := (HS.out.1 rfl).1; omega
          obtain ⟨ad1, A1_, c1_, ea, hx1, hl1, hi1⟩ := at_L1 (Kd.C_below RA.out.2 HBr.out) (i : Int) (by omega) (by omega)
          obtain ⟨ad2, A2_, c2_, eb, hx2, hl2, hi2⟩ := at_L1 (Kd.C_below RB.out.2 HBr.out) (i : Int) (by omega) (by omega)
          rw [Int.toNat_natCast] at hx1 hx2
          obtain ⟨ya, hya⟩ : ∃ y, y = rd_L1 t216 (i : Int) := ⟨_, rfl⟩
          obtain ⟨yb, hyb⟩ : ∃ y, y = rd_L1 xb (i : Int) := ⟨_, rfl⟩
          rw [← hya] at hx1 hl1 hi1
          rw [← hyb] at hx2 hl2 hi2
          have L1 := Aside0.mk (And.intro hx1 (And.intro hl1 hi1))
          have L2 := Aside0.mk (And.intro hx2 (And.intro hl2 hi2))
          obtain ⟨same2, hs2⟩ : ∃ b : Bool, ((strOfNums ya).toList == (strOfNums yb).toList) = b := ⟨_, rfl⟩
          have HS2 := Aside0.mk hs2
          have HN : Aside0 (SameTo t216 xb same2 (i + 1)) := ⟨same_next HS.out hlt hlb GA.out GB.out (by rw [← hs2, hya, hyb])⟩
          clear hx1 hl1 hi1 hx2 hl2 hi2 hya hyb hs2 HSAM HFA HFB
          cases ea
          cases eb
          go_wp2
          refine free_ (n := 12) (T := ij.T17) (B := ij.B17) (ent := [(0, 73), (1, 74), (2, 75), (3, 76), (4, 77), (5, 78), (6, 79), (7, 80), (8, 81), (9, 82), (10, 83), (11, 12)]) (F := fun i_ v_ w_ => (([(.val (.slice (some ad1) t216.length co13)), (.val (.int .i64 (i : Int))), (.val (.pointer (some (ad1.add i)))), (.cs ya), (.val (.string (strOfNums ya))), (.val (.slice (some ad2) xb.length cb)), (.val (.int .i64 (i : Int))), (.val (.pointer (some (ad2.add i)))), (.cs yb), (.val (.string (strOfNums yb))), (.val (.bool same2)), (.val (.bool same2))] : List Tells).getD i_ (.val undef)).holds v_ w_) [0, 1, 2, 3, 4, 5, 6, 7, 8, 9, 10, 11] (by kernel_rfl) rfl ij.tab17 ij.bits17 (by kernel_rfl) (by kernel_rfl) (by decide) (by decide) (by decide) rfl (fun i v w_ w2_ h_ hb_ => by exact Tells.keep h_ hb_) (below_drew1 (Below.refl _ _)) ?_ ?_
          · skip
            refine stp_cons (fun V a W hB hd ho => ?_) ?_
            · have e0 := (ho 0 (by decide)).trans (show _ = some (.slice (some ad1) t216.length co13) from rfl)
              clear hd ho
              refine ⟨_, 73, rfl, by decide, fun K hK => ?_⟩
              refine value_ (w1 := W) (v := (.slice (some ad1) t216.length co13)) (by rfl) rfl ?_ (hK _ _ (Below.refl _ _) rfl)
              go_simp
              try rfl
            refine stp_cons (fun V a W hB hd ho => ?_) ?_
            · have e13 := (ho 13 (by decide)).trans (show _ = some (.int .i64 (i : Int)) from rfl)
              clear hd ho
              refine ⟨_, 74, rfl, by decide, fun K hK => ?_⟩
              refine value_ (w1 := W) (v := (.int .i64 (i : Int))) (by rfl) rfl ?_ (hK _ _ (Below.refl _ _) rfl)
              go_simp
              try rfl
            refine stp_cons (fun V a W hB hd ho => ?_) ?_
            · obtain ⟨e73, s73⟩ := hd 0 73 (by decide) (by kernel_rfl)
              rw [show V 0 = (.slice (some ad1) t216.length co13) from s73] at e73
              clear s73
              obtain ⟨e74, s74⟩ := hd 1 74 (by decide) (by kernel_rfl)
              rw [show V 1 = (.int .i64 (i : Int)) from s74] at e74
              clear s74
              clear hd ho
              refine ⟨_, 75, rfl, by decide, fun K hK => ?_⟩
              refine value_ (w1 := W) (v := .pointer (some (ad1.add i))) (by rfl) rfl ?_ (hK _ _ (Below.refl _ _) rfl)
              have hA_ : (i : Int) < (t216.length : Int) := by omega
              go_simp
              try rfl
            refine stp_cons (fun V a W hB hd ho => ?_) ?_
            · obtain ⟨e75, s75⟩ := hd 2 75 (by decide) (by kernel_rfl)
              rw [show V 2 = (.pointer (some (ad1.add i))) from s75] at e75
              clear s75
              clear hd ho
              refine ⟨_, 76, rfl, by decide, fun K hK => ?_⟩
              refine value_ (w1 := W) (v := .slice A1_ ya.length c1_) (by rfl) rfl ?_ (hK _ _ (Below.refl _ _) ⟨_, _, rfl, L1.out.2.1, Kd.C_below L1.out.2.2 hB⟩)
              have hcl := (hB.cell (World.block_lt_of_cell? _ _ L1.out.1)).trans L1.out.1
              go_simp
            refine stp_cons (fun V a W hB hd ho => ?_) ?_
            · obtain ⟨e76, s76⟩ := hd 3 76 (by decide) (by kernel_rfl)
              clear hd ho
              refine ⟨_, 77, rfl, by decide, fun K hK => ?_⟩
              obtain ⟨Aq, cq, eq_, hcq, hCq⟩ := s76
              rw [eq_] at e76
              have hcv := Kd.C_string (P := Try.prog) (A := Aq) (c := cq) Try.underlying23 Try.underlying5 Try.underlying9 hCq
              clear eq_
              refine value_ (w1 := W) (v := .string (strOfNums ya)) (by rfl) rfl ?_ (hK _ _ (Below.refl _ _) rfl)
              go_simp
              try (constructor <;> rfl)
            refine stp_cons (fun V a W hB hd ho => ?_) ?_
            · have e1 := (ho 1 (by decide)).trans (show _ = some (.slice (some ad2) xb.length cb) from rfl)
              clear hd ho
              refine ⟨_, 78, rfl, by decide, fun K hK => ?_⟩
              refine value_ (w1 := W) (v := (.slice (some ad2) xb.length cb)) (by rfl) rfl ?_ (hK _ _ (Below.refl _ _) rfl)
              go_simp
              try rfl
            refine stp_cons (fun V a W hB hd ho => ?_) ?_
            · have e13 := (ho 13 (by decide)).trans (show _ = some (.int .i64 (i : Int)) from rfl)
              clear hd ho
              refine ⟨_, 79, rfl, by decide, fun K hK => ?_⟩
              refine value_ (w1 := W) (v := (.int .i64 (i : Int))) (by rfl) rfl ?_ (hK _ _ (Below.refl _ _) rfl)
              go_simp
              try rfl
            refine stp_cons (fun V a W hB hd ho => ?_) ?_
            · obtain ⟨e78, s78⟩ := hd 5 78 (by decide) (by kernel_rfl)
              rw [show V 5 = (.slice (some ad2) xb.length cb) from s78] at e78
              clear s78
              obtain ⟨e79, s79⟩ := hd 6 79 (by decide) (by kernel_rfl)
              rw [show V 6 = (.int .i64 (i : Int)) from s79] at e79
              clear s79
              clear hd ho
              refine ⟨_, 80, rfl, by decide, fun K hK => ?_⟩
              refine value_ (w1 := W) (v := .pointer (some (ad2.add i))) (by rfl) rfl ?_ (hK _ _ (Below.refl _ _) rfl)
              have hA_ : (i : Int) < (xb.length : Int) := by omega
              go_simp
              try rfl
            refine stp_cons (fun V a W hB hd ho => ?_) ?_
            · obtain ⟨e80, s80⟩ := hd 7 80 (by decide) (by kernel_rfl)
              rw [show V 7 = (.pointer (some (ad2.add i))) from s80] at e80
              clear s80
              clear hd ho
              refine ⟨_, 81, rfl, by decide, fun K hK => ?_⟩
              refine value_ (w1 := W) (v := .slice A2_ yb.length c2_) (by rfl) rfl ?_ (hK _ _ (Below.refl _ _) ⟨_, _, rfl, L2.out.2.1, Kd.C_below L2.out.2.2 hB⟩)
              have hcl := (hB.cell (World.block_lt_of_cell? _ _ L2.out.1)).trans L2.out.1
              go_simp
            refine stp_cons (fun V a W hB hd ho => ?_) ?_
            · obtain ⟨e81, s81⟩ := hd 8 81 (by decide) (by kernel_rfl)
              clear hd ho
              refine ⟨_, 82, rfl, by decide, fun K hK => ?_⟩
              obtain ⟨Aq, cq, eq_, hcq, hCq⟩ := s81
              rw [eq_] at e81
              have hcv := Kd.C_string (P := Try.prog) (A := Aq) (c := cq) Try.underlying23 Try.underlying5 Try.underlying9 hCq
              clear eq_
              refine value_ (w1 := W) (v := .string (strOfNums yb)) (by rfl) rfl ?_ (hK _ _ (Below.refl _ _) rfl)
              go_simp
              try (constructor <;> rfl)
            refine stp_cons (fun V a W hB hd ho => ?_) ?_
            · obtain ⟨e77, s77⟩ := hd 4 77 (by decide) (by kernel_rfl)
              rw [show V 4 = (.string (strOfNums ya)) from s77] at e77
              clear s77
              obtain ⟨e82, s82⟩ := hd 9 82 (by decide) (by kernel_rfl)
              rw [show V 9 = (.string (strOfNums yb)) from s82] at e82
              clear s82
              clear hd ho
              refine ⟨_, 83, rfl, by decide, fun K hK => ?_⟩
              have hsm := HS2.out
              refine value_ (w1 := W) (v := .bool same2) (by rfl) rfl ?_ (hK _ _ (Below.refl _ _) rfl)
              go_simp
              try rfl
            refine stp_cons (fun V a W hB hd ho => ?_) ?_
            · obtain ⟨e83, s83⟩ := hd 10 83 (by decide) (by kernel_rfl)
              rw [show V 10 = (.bool same2) from s83] at e83
              clear s83
              clear hd ho
              refine ⟨_, 12, rfl, by decide, fun K hK => ?_⟩
              refine value_ (w1 := W) (v := (.bool same2)) (by rfl) rfl ?_ (hK _ _ (Below.refl _ _) rfl)
              go_simp
              try rfl
            exact stp_nil
          · intro V Wend HBr_ HV_
            have HV := fun i t hm => HV_ (i, t) hm
            clear HV_
            have v12 : V 11 = .bool same2 := HV 11 12 (by decide)
            have v83 : V 10 = .bool same2 := HV 10 83 (by decide)
            clear HV
            simp only [putSel, Lof, List.map_cons, List.map_nil, if_true, Act.put, List.setIfInBounds_toArray, List.set_cons_zero, List.set_cons_succ]
            rw [v12]
            go_wp2
            go_roundw
            case rel => exact ⟨same2, i + 1, rfl, by go_num, ⟨by omega⟩, HN, ⟨below_step HBr.out HBr_⟩⟩
            case measure => simp [intOf]; omega
        · have HSM := HSAM.out true (fun _ => same_all (HS.out.1 rfl) hlt) (fun h => by cases h)
          have RA2 := Aside0.mk (And.intro RA.out.1 (Kd.C_below RA.out.2 HBr.out))
          have RB2 := Aside0.mk (And.intro RB.out.1 (Kd.C_below RB.out.2 HBr.out))
          clear hi
          go_wp2
          refine free_ (n := 10) (T := ij.T18) (B := ij.B18) (ent := [(0, 84), (1, 85), (2, 86), (3, 87), (4, 88), (5, 89), (6, 90), (7, 91), (8, 92), (9, 8)]) (F := fun i_ v_ w_ => (([(.css 5 t216), (.cs FA), (.val (.string (strOfNums FA))), (.css 5 xb), (.cs FB), (.val (.string (strOfNums FB))), (.val (.bool true)), (.val (.bool true)), (.val (.bool true)), (.val (.bool true))] : List Tells).getD i_ (.val undef)).holds v_ w_) [0, 1, 2, 3, 4, 5, 6, 7, 8, 9] (by kernel_rfl) rfl ij.tab18 ij.bits18 (by kernel_rfl) (by kernel_rfl) (by decide) (by decide) (by decide) rfl (fun i v w_ w2_ h_ hb_ => by exact Tells.keep h_ hb_) (below_drew1 (Below.refl _ _)) ?_ ?_
          · skip
            refine stp_cons (fun V a W hB hd ho => ?_) ?_
            · have e0 := (ho 0 (by decide)).trans (show _ = some (.slice Ao13 t216.length co13) from rfl)
              clear hd ho
              refine ⟨_, 84, rfl, by decide, fun K hK => ?_⟩
              exact value_ (w1 := W) (v := .slice Ao13 t216.length co13) (by rfl) rfl (by go_simp) (hK _ _ (Below.refl _ _) ⟨_, _, rfl, RA2.out.1, Kd.C_below RA2.out.2 hB⟩)
            refine stp_cons (fun V a W hB hd ho => ?_) ?_
            · obtain ⟨e84, s84⟩ := hd 0 84 (by decide) (by kernel_rfl)
              clear hd ho
              refine ⟨_, 85, rfl, by decide, fun K hK => ?_⟩
              obtain ⟨Aq, cq, eq_, hcq, hCq⟩ := s84
              rw [eq_] at e84
              refine goes_ Try.func12 (by kernel_rfl) rfl #[.slice Aq t216.length cq] (by rfl) rfl rfl (by simp [Act.eval, e84]) ?_
              refine (digest_Frame.calls KF Aq cq t216 FA W hCq hcq HFA.out).mono ?_
              rintro e w2_ ⟨v, rfl, hR, hb⟩
              exact ⟨_, rfl, hK _ _ hb (holds_R hR)⟩
            refine stp_cons (fun V a W hB hd ho => ?_) ?_
            · obtain ⟨e85, s85⟩ := hd 1 85 (by decide) (by kernel_rfl)
              clear hd ho
              refine ⟨_, 86, rfl, by decide, fun K hK => ?_⟩
              obtain ⟨Aq, cq, eq_, hcq, hCq⟩ := s85
              rw [eq_] at e85
              have hcv := Kd.C_string (P := Try.prog) (A := Aq) (c := cq) Try.underlying23 Try.underlying5 Try.underlying9 hCq
              clear eq_
              refine value_ (w1 := W) (v := .string (strOfNums FA)) (by rfl) rfl ?_ (hK _ _ (Below.refl _ _) rfl)
              go_simp
              try (constructor <;> rfl)
            refine stp_cons (fun V a W hB hd ho => ?_) ?_
            · have e1 := (ho 1 (by decide)).trans (show _ = some (.slice Ab xb.length cb) from rfl)
              clear hd ho
              refine ⟨_, 87, rfl, by decide, fun K hK => ?_⟩
              exact value_ (w1 := W) (v := .slice Ab xb.length cb) (by rfl) rfl (by go_simp) (hK _ _ (Below.refl _ _) ⟨_, _, rfl, RB2.out.1, Kd.C_below RB2.out.2 hB⟩)
            refine stp_cons (fun V a W hB hd ho => ?_) ?_
            · obtain ⟨e87, s87⟩ := hd 3 87 (by decide) (by kernel_rfl)
              clear hd ho
              refine ⟨_, 88, rfl, by decide, fun K hK => ?_⟩
              obtain ⟨Aq, cq, eq_, hcq, hCq⟩ := s87
              rw [eq_] at e87
              refine goes_ Try.func12 (by kernel_rfl) rfl #[.slice Aq xb.length cq] (by rfl) rfl rfl (by simp [Act.eval, e87]) ?_
              refine (digest_Frame.calls KF Aq cq xb FB W hCq hcq HFB.out).mono ?_
              rintro e w2_ ⟨v, rfl, hR, hb⟩
              exact ⟨_, rfl, hK _ _ hb (holds_R hR)⟩
            refine stp_cons (fun V a W hB hd ho => ?_) ?_
            · obtain ⟨e88, s88⟩ := hd 4 88 (by decide) (by kernel_rfl)
              clear hd ho
              refine ⟨_, 89, rfl, by decide, fun K hK => ?_⟩
              obtain ⟨Aq, cq, eq_, hcq, hCq⟩ := s88
              rw [eq_] at e88
              have hcv := Kd.C_string (P := Try.prog) (A := Aq) (c := cq) Try.underlying23 Try.underlying5 Try.underlying9 hCq
              clear eq_
              refine value_ (w1 := W) (v := .string (strOfNums FB)) (by rfl) rfl ?_ (hK _ _ (Below.refl _ _) rfl)
              go_simp
              try (constructor <;> rfl)
            refine stp_cons (fun V a W hB hd ho => ?_) ?_
            · obtain ⟨e86, s86⟩ := hd 2 86 (by decide) (by kernel_rfl)
              rw [show V 2 = (.string (strOfNums FA)) from s86] at e86
              clear s86
              obtain ⟨e89, s89⟩ := hd 5 89 (by decide) (by kernel_rfl)
              rw [show V 5 = (.string (strOfNums FB)) from s89] at e89
              clear s89
              clear hd ho
              refine ⟨_, 90, rfl, by decide, fun K hK => ?_⟩
              have hsm := HSM.out
              refine value_ (w1 := W) (v := .bool true) (by rfl) rfl ?_ (hK _ _ (Below.refl _ _) rfl)
              go_simp
              try rfl
            refine stp_cons (fun V a W hB hd ho => ?_) ?_
            · have e12 := (ho 12 (by decide)).trans (show _ = some (.bool true) from rfl)
              clear hd ho
              refine ⟨_, 91, rfl, by decide, fun K hK => ?_⟩
              refine value_ (w1 := W) (v := (.bool true)) (by rfl) rfl ?_ (hK _ _ (Below.refl _ _) rfl)
              go_simp
              try rfl
            refine stp_cons (fun V a W hB hd ho => ?_) ?_
            · obtain ⟨e90, s90⟩ := hd 6 90 (by decide) (by kernel_rfl)
              rw [show V 6 = (.bool true) from s90] at e90
              clear s90
              obtain ⟨e91, s91⟩ := hd 7 91 (by decide) (by kernel_rfl)
              rw [show V 7 = (.bool true) from s91] at e91
              clear s91
              clear hd ho
              refine ⟨_, 92, rfl, by decide, fun K hK => ?_⟩
              refine value_ (w1 := W) (v := (.bool true)) (by rfl) rfl ?_ (hK _ _ (Below.refl _ _) rfl)
              go_simp
              try rfl
            refine stp_cons (fun V a W hB hd ho => ?_) ?_
            · obtain ⟨e92, s92⟩ := hd 8 92 (by decide) (by kernel_rfl)
              rw [show V 8 = (.bool true) from s92] at e92
              clear s92
              clear hd ho
              refine ⟨_, 8, rfl, by decide, fun K hK => ?_⟩
              refine value_ (w1 := W) (v := (.bool true)) (by rfl) rfl ?_ (hK _ _ (Below.refl _ _) rfl)
              go_simp
              try rfl
            exact stp_nil
          · intro V Wend HBr_ HV_
            have HV := fun i t hm => HV_ (i, t) hm
            clear HV_
            have v8 : V 9 = .bool true := HV 9 8 (by decide)
            clear HV
            have HB2 := Aside0.mk (below_step (below_step HB.out HBr.out) HBr_)
            simp only [putSel, Lof, List.map_cons, List.map_nil, if_true, Act.put, List.setIfInBounds_toArray, List.set_cons_zero, List.set_cons_succ]
            rw [v8]
            go_wp2
            go_ret
            exact ⟨rfl, HB2.out⟩

theorem walk (A0 : Option Addr) (c0 : Nat) (l0 : List (List Int)) (A1 : Option Addr) (c1 : Nat) (l1 : List (List Int)) (a2 a3 : Int) (w : World) (hr0 : Kd.C (Kd.slice 5 (Kd.int .u8)) w A0 l0.length l0) (hc0 : l0.length ≤ c0) (hw0 : l0.length ≤ maxLen ∧ ∀ x ∈ l0, x.length ≤ maxLen ∧ ∀ y ∈ x, (Lit.int .u8 y).wf = true) (hr1 : Kd.C (Kd.slice 5 (Kd.int .u8)) w A1 l1.length l1) (hc1 : l1.length ≤ c1) (hw1 : l1.length ≤ maxLen ∧ ∀ x ∈ l1, x.length ≤ maxLen ∧ ∀ y ∈ x, (Lit.int .u8 y).wf = true) (w2 : (Lit.int .i64 a2).wf = true) (w3 : (Lit.int .i64 a3).wf = true) :
    Calls Try.prog 5 #[.slice A0 l0.length c0, .slice A1 l1.length c1, .int .i64 a2, .int .i64 a3] w fun e w' => e = .returned (.bool true) ∧ Below w.heap.size w w' := by
  obtain ⟨k1, h1⟩ := awake_ev
  obtain ⟨k2, h2⟩ := cut_ev l0
  obtain ⟨k3, h3⟩ := cut_ev l1
  exact walk0 (k1 + k2 + k3) A0 c0 l0 A1 c1 l1 a2 a3 _ _ w hr0 hc0 hr1 hc1 ⟨h1 _ (by omega)⟩ ⟨h2 _ (by omega)⟩ ⟨h3 _ (by omega)⟩ ⟨(cut_bd l0).1, fun x hx => ⟨(cut_bd l0).2 x hx, css_bd hw0 x hx⟩⟩ ⟨(cut_bd l1).1, fun x hx => ⟨(cut_bd l1).2 x hx, css_bd hw1 x hx⟩⟩
end Go.Proofs.Ytedpmohnnagamaa.WalkInj
