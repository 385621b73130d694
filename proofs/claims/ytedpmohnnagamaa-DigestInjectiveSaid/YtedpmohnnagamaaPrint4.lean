-- Written by a program of this session: the machine's side of a proof; Lean checks it.
import Derived.Test.YtedpmohnnagamaaPrint0
namespace Go.Proofs.Ytedpmohnnagamaa.Print
open Go.RowKit Go.Proofs.YtedpmohnnagamaaW.PrintWords Go.Proofs.YtedpmohnnagamaaW.PrintLast Go.Proofs.YtedpmohnnagamaaW.PrintMore
attribute [local go_sem] max2_int min2_int max_two min_two max_three min_three max_four min_four   -- for this text's walks alone
set_option linter.unusedVariables false
set_option linter.unusedSimpArgs false

/-! ### flagstonelaw2_cut: function 11 -/
mutual
def flagstonelaw2_cut.j0 : Nat → List (List Int) → Option ((List (List Int)))
  | 0, _ => none
  | k + 1, x0 => if 0 ≤ (x0.length : Int) then (if ((x0.length : Int) : Int).toNat ≤ 11728124029610 then (flagstonelaw2_cut.l0 k x0 (List.replicate ((x0.length : Int) : Int).toNat []) 0) else (none)) else (none)
def flagstonelaw2_cut.l0 : Nat → List (List Int) → List (List Int) → Int → Option ((List (List Int)))
  | 0, _, _, _ => none
  | k + 1, x0, x3, x4 => if x4 < (x0.length : Int) then (if 0 ≤ x4 then (if x4 < (x3.length : Int) then ((some (x3.set (x4 : Int).toNat (rd_L1 x0 x4) : List (List Int))).bind fun y173 => (if ((rd_L1 x0 x4).length : Int) > 300 then (if 300 ≤ ((rd_L1 x0 x4).length : Int) then (flagstonelaw2_cut.l0 k x0 (y173.set (x4 : Int).toNat ((rd_L1 x0 x4).take 300)) (wrap64 (x4 + 1))) else (none)) else (flagstonelaw2_cut.l0 k x0 y173 (wrap64 (x4 + 1))))) else (none)) else (none)) else (some x3)
end
def flagstonelaw2_cut.f (k : Nat) (l0 : List (List Int)) : Option ((List (List Int))) := if (l0.length : Int) > 20 then (if 20 ≤ (l0.length : Int) then (flagstonelaw2_cut.j0 k (l0.take 20)) else (none)) else (flagstonelaw2_cut.j0 k l0)
theorem flagstonelaw2_cut.mono_l : ∀ k, (∀ y0, LeO (flagstonelaw2_cut.j0 k y0) (flagstonelaw2_cut.j0 (k + 1) y0)) ∧ (∀ y0 y1 y2, LeO (flagstonelaw2_cut.l0 k y0 y1 y2) (flagstonelaw2_cut.l0 (k + 1) y0 y1 y2))
  | 0 => ⟨fun _ r h => by simp [flagstonelaw2_cut.j0] at h, fun _ _ _ r h => by simp [flagstonelaw2_cut.l0] at h⟩
  | k + 1 => by
    obtain ⟨ih0, ih1⟩ := flagstonelaw2_cut.mono_l k
    refine ⟨?_, ?_⟩
    · intro y0
      unfold flagstonelaw2_cut.j0
      repeat' first
      | (with_reducible exact ih0 _)
      | (with_reducible exact ih1 _ _ _)
      | (with_reducible exact LeO.refl _)
      | (with_reducible exact LeO.none _)
      | (with_reducible refine LeO.ite ?_ ?_)
      | (with_reducible refine LeO.bind ?_ (fun _ => ?_))
      | exact ih0 _
      | exact ih1 _ _ _
      | exact LeO.none _
      | refine LeO.ite ?_ ?_
      | refine LeO.bind ?_ (fun _ => ?_)
    · intro y0 y1 y2
      unfold flagstonelaw2_cut.l0
      repeat' first
      | (with_reducible exact ih0 _)
      | (with_reducible exact ih1 _ _ _)
      | (with_reducible exact LeO.refl _)
      | (with_reducible exact LeO.none _)
      | (with_reducible refine LeO.ite ?_ ?_)
      | (with_reducible refine LeO.bind ?_ (fun _ => ?_))
      | exact ih0 _
      | exact ih1 _ _ _
      | exact LeO.none _
      | refine LeO.ite ?_ ?_
      | refine LeO.bind ?_ (fun _ => ?_)
theorem flagstonelaw2_cut.mono : ∀ a0 k, LeO (flagstonelaw2_cut.f k a0) (flagstonelaw2_cut.f (k + 1) a0) := by
  intro a0 k
  obtain ⟨ih0, ih1⟩ := flagstonelaw2_cut.mono_l k
  unfold flagstonelaw2_cut.f
  repeat' first
      | (with_reducible exact ih0 _)
      | (with_reducible exact ih1 _ _ _)
      | (with_reducible exact LeO.refl _)
      | (with_reducible exact LeO.none _)
      | (with_reducible refine LeO.ite ?_ ?_)
      | (with_reducible refine LeO.bind ?_ (fun _ => ?_))
      | exact ih0 _
      | exact ih1 _ _ _
      | exact LeO.none _
      | refine LeO.ite ?_ ?_
      | refine LeO.bind ?_ (fun _ => ?_)
set_option maxHeartbeats 8000000 in
set_option maxRecDepth 100000 in
theorem flagstonelaw2_cut.calls (k : Nat) (P0_ : Nat → Prop) (A0 : Option Addr) (c0 : Nat) (l0 : List (List Int)) (r : List (List Int)) (w : World) (hs0 : Kd.V (Kd.slice 5 (Kd.int .u8)) 23 w w.heap.size (fun k_ => P0_ k_) (.slice A0 l0.length c0) l0) (h : flagstonelaw2_cut.f k l0 = some r) :
    Calls Try.prog 11 #[.slice A0 l0.length c0] w fun e w' => ∃ v0_ : Value, e = .returned (v0_) ∧ Kd.N (Kd.slice 5 (Kd.int .u8)) 23 w' w.heap.size (fun k_ => (P0_ k_ ∨ w.heap.size ≤ k_)) v0_ r ∧ Below w.heap.size w w' := by
  have HO0 := Aside0.mk (show Kd.V (Kd.slice 5 (Kd.int .u8)) 23 w w.heap.size (fun k_ => (P0_ k_ ∨ w.heap.size ≤ k_)) (.slice A0 l0.length c0) l0 from Kd.V_mono hs0 (fun k_ hk => .inl hk))
  have HB := Aside0.mk (Below.refl w.heap.size w)
  have H : (if (l0.length : Int) > 20 then (if 20 ≤ (l0.length : Int) then (flagstonelaw2_cut.j0 k (l0.take 20)) else (none)) else (flagstonelaw2_cut.j0 k l0)) = some r := h
  clear h
  have HC2 := Aside0.mk H
  clear H
  go_enter Try.func11, Try.ntmps11
  go_upto_if 7 with (fail)
  go_cut [0] (fun v0 wc => ∃ (kq : Nat) (x0_1 : List (List Int)), Aside0 (flagstonelaw2_cut.j0 kq x0_1 = some r) ∧ Aside0 (kq ≤ k) ∧ Aside0 (Kd.V (Kd.slice 5 (Kd.int .u8)) 23 wc w.heap.size (fun k_ => (P0_ k_ ∨ w.heap.size ≤ k_)) v0 x0_1) ∧ Aside0 (Below w.heap.size w wc))
  case first =>
    have H := HC2.out
    clear HC2
    by_cases c3 : (l0.length : Int) > 20
    · rw [if_pos c3] at H
      have c3b0 : decide (20 < (l0.length : Int)) = true := decide_eq_true c3
      have c3b1 : decide (20 < l0.length) = true := decide_eq_true (by omega)
      clear c3
      (first | rw [c3b0] | (simp only [i64_w, i32_w]; rw [c3b0]) | skip)
      by_cases c4 : 20 ≤ (l0.length : Int)
      · rw [if_pos c4] at H
        have c4b0 := eq_true c4
        have c4b1 : decide (20 ≤ (l0.length : Int)) = true := decide_eq_true c4
        clear c4
        obtain ⟨y164, hy164⟩ : ∃ y_ : List (List Int), y_ = (l0.take 20) := ⟨_, rfl⟩
        replace H : (flagstonelaw2_cut.j0 k y164) = some r := by first | (rw [hy164]; with_reducible exact H) | (have H2_ := (Option.bind_some _ _).symm.trans H; rw [hy164]; with_reducible exact H2_) | (have H2_ := (Option.bind_some _ _).symm.trans H; with_reducible exact H2_) | with_reducible exact H | (rw [hy164]; exact H) | exact H
        have Ny164 := Aside0.mk hy164
        clear hy164
        have H' := Aside0.mk H
        clear H
        have q5 : (20 : Int) ≤ ((l0.length : Int) : Int) := of_decide_eq_true (by first | (with_reducible assumption) | assumption)
        obtain ⟨i05, hi05, _, hsz5, _⟩ := info_parts info23
        have hroom5 : l0.length ≤ c0 := (Kd.V_reads' HO0.out).2.1
        have hC5 : Kd.F (Kd.slice 5 (Kd.int .u8)) _ _ A0 l0.length l0 := (Kd.V_at (base := w.heap.size) HO0.out).2.2
        have hcut5 := cut_to (P := Try.prog) 27 23 .i64 Try.underlying27 hi05 A0 l0.length c0 20 (by omega) q5 hroom5
        have hr5 := Kd.F_take (m := 20) hC5 (by omega)
        have hy5 : y164.length = (20 : Int).toNat := (by rw [Ny164.out, List.length_take]; omega)
        rw [← Ny164.out] at hr5
        rw [← hy5] at hcut5
        have HO168 := Aside0.mk (show Kd.V (Kd.slice 5 (Kd.int .u8)) 23 _ w.heap.size _ (.slice A0 y164.length c0) y164 from Kd.V_mk (by omega) hr5)
        have HC168 := Aside0.mk (show y164.length ≤ c0 from by omega)
        clear hr5 hC5 hroom5 hi05 hsz5
        have KY5 := Aside0.mk hy5
        clear hy5
        replace q5 := eq_true q5
        go_wp2
        go_meet
        case rel => exact ⟨_, (y164), H', ⟨by first | omega | exact Nat.le_refl _⟩, ⟨by (with_reducible repeat (first | apply Kd.V_alloc | apply Kd.V_drewN | apply Kd.V_drew)); exact HO168.out⟩, ⟨by repeat (first | (with_reducible first | exact HB.out | apply below_alloc | apply pw_below_drewN | apply below_drew1) | exact HB.out)⟩⟩
      · rw [if_neg c4] at H
        exact absurd H (by simp)
    · rw [if_neg c3] at H
      have c3b0 : decide (20 < (l0.length : Int)) = false := decide_eq_false c3
      have c3b1 : decide (20 < l0.length) = false := decide_eq_false (by omega)
      clear c3
      (first | rw [c3b0] | (simp only [i64_w, i32_w]; rw [c3b0]) | skip)
      have H' := Aside0.mk H
      clear H
      go_wp2
      go_meet
      case rel => exact ⟨_, (l0), H', ⟨by first | omega | exact Nat.le_refl _⟩, ⟨by (with_reducible repeat (first | apply Kd.V_alloc | apply Kd.V_drewN | apply Kd.V_drew)); exact HO0.out⟩, ⟨by repeat (first | (with_reducible first | exact HB.out | apply below_alloc | apply pw_below_drewN | apply below_drew1) | exact HB.out)⟩⟩
  case rest =>
    clear HC2
    try clear c1
    try clear p2
    try clear c3
    try clear c3b0
    try clear c3b1
    try clear c4
    try clear c4b0
    try clear c4b1
    try clear q5
    try clear q5
    obtain ⟨kq, x0_1, HA, HJ1, HO_0, HB⟩ := hcut
    cases kq with
    | zero => exact absurd HA.out (by simp [flagstonelaw2_cut.j0])
    | succ kj1 =>
      have H := HA.out
      clear HA
      simp only [flagstonelaw2_cut.j0] at H
      by_cases c6 : 0 ≤ (x0_1.length : Int)
      · rw [if_pos c6] at H
        have c6b0 := eq_true c6
        have c6b1 : decide (0 ≤ (x0_1.length : Int)) = true := decide_eq_true c6
        clear c6
        by_cases c7 : ((x0_1.length : Int) : Int).toNat ≤ 11728124029610
        · rw [if_pos c7] at H
          have c7b0 := eq_true c7
          have c7b1 : decide (((x0_1.length : Int) : Int).toNat ≤ 11728124029610) = true := decide_eq_true c7
          clear c7
          obtain ⟨y169, hy169⟩ : ∃ y_ : List (List Int), y_ = (List.replicate ((x0_1.length : Int) : Int).toNat []) := ⟨_, rfl⟩
          replace H : (flagstonelaw2_cut.l0 kj1 x0_1 y169 0) = some r := by first | (rw [hy169]; with_reducible exact H) | (have H2_ := (Option.bind_some _ _).symm.trans H; rw [hy169]; with_reducible exact H2_) | (have H2_ := (Option.bind_some _ _).symm.trans H; with_reducible exact H2_) | with_reducible exact H | (rw [hy169]; exact H) | exact H
          have Ny169 := Aside0.mk hy169
          clear hy169
          have H' := Aside0.mk H
          clear H
          obtain ⟨Ao8, co8, eo8⟩ := Kd.V_slice HO_0.out
          subst eo8
          go_wp2_with (first | ((with_reducible refine gate_dst (N := 12) rfl ?_); refine Kd.N_make (Kd.slice 5 (Kd.int .u8)) _ 23 rfl (N' := 12) rfl 27 _ _ rfl (x0_1.length : Int) rfl rfl Try.underlying27 (.slice none 0 0) 24 info23 rfl (by decide) (by omega) [] (ok := fun k_ => wc.heap.size ≤ k_) (okp := fun _ => False) (Kd.FK_slice_mk (Nat.le_refl _) (Kd.F_nil _ _ _)) (fun _ hk => hk.elim) (Nat.le_refl _) (of_decide_eq_true (by first | (with_reducible assumption) | assumption)) (Nat.le_trans (Nat.mul_le_mul_right _ (of_decide_eq_true (by first | (with_reducible assumption) | assumption) : (x0_1.length : Int).toNat ≤ 11728124029610)) (by omega)) (Below.refl _ _) (Nat.le_refl _) ?_; intro v170 w9 ho10 hb hg_ hnew_; clear hg_ hnew_; (first | rw [← Ny169.out] at ho10 | (simp only [Int.reduceToNat] at ho10; rw [← Ny169.out] at ho10)); have n0_ := Aside0.mk (Kd.V_elder' (by (with_reducible repeat (first | apply Kd.V_alloc | apply Kd.V_drewN | apply Kd.V_drew)); exact HO_0.out) (Kd.N_base ho10) hb); have n1_ := Aside0.mk (Kd.N_lower (Kd.N_mono (ok' := fun k_ => (P0_ k_ ∨ w.heap.size ≤ k_)) ho10 (fun k_ hk_ => (.inr (Nat.le_trans (below_size (by repeat (first | (with_reducible first | exact HB.out | apply below_alloc | apply pw_below_drewN | apply below_drew1) | exact HB.out))) hk_)))) (below_size (by repeat (first | (with_reducible first | exact HB.out | apply below_alloc | apply pw_below_drewN | apply below_drew1) | exact HB.out)))); have n2_ := Aside0.mk (below_step (by repeat (first | (with_reducible first | exact HB.out | apply below_alloc | apply pw_below_drewN | apply below_drew1) | exact HB.out)) hb); clear HO_0; clear HB; have HO_0 := n0_; have HO171 := n1_; have HB := n2_; clear n0_ n1_ n2_; clear hb ho10))
          go_loopg [4] kj1 (fun kq v4 w' => ∃ (x3_2 : List (List Int)) (x4_2 : Int), v4 = .int .i64 x4_2 ∧ Aside0 (flagstonelaw2_cut.l0 kq x0_1 x3_2 x4_2 = some r) ∧ Aside0 (kq ≤ kj1) ∧ Aside0 (Kd.V (Kd.slice 5 (Kd.int .u8)) 23 w' w.heap.size (fun k_ => (P0_ k_ ∨ w.heap.size ≤ k_) ∧ some k_ ≠ (v170 : Value).ownBlock) (.slice Ao8 x0_1.length co8) x0_1) ∧ Aside0 (Kd.N (Kd.slice 5 (Kd.int .u8)) 23 w' w.heap.size (fun k_ => (P0_ k_ ∨ w.heap.size ≤ k_)) v170 x3_2) ∧ Aside0 (Below w.heap.size w w'))
          case atStart => exact ⟨(y169), (0), (by first | rfl | (simp; done) | (simp [*]; done)), H', ⟨Nat.le_refl _⟩, ⟨by (with_reducible repeat (first | apply Kd.V_alloc | apply Kd.V_drewN | apply Kd.V_drew)); exact HO_0.out⟩, ⟨by (with_reducible repeat (first | apply Kd.N_alloc | apply Kd.N_drewN | apply Kd.N_drew)); exact HO171.out⟩, ⟨by repeat (first | (with_reducible first | exact HB.out | apply below_alloc | apply pw_below_drewN | apply below_drew1) | exact HB.out)⟩⟩
          case round =>
            clear H'
            try clear c1
            try clear p2
            try clear c3
            try clear c3b0
            try clear c3b1
            try clear c4
            try clear c4b0
            try clear c4b1
            try clear q5
            try clear c6
            try clear c6b0
            try clear c6b1
            try clear c7
            try clear c7b0
            try clear c7b1
            try clear p2
            try clear q5
            obtain ⟨x3_2, x4_2, rfl, HA, HK2, HO_0, HO_3, HB⟩ := hrel
            cases gk with
            | zero => exact absurd HA.out (by simp [flagstonelaw2_cut.l0])
            | succ k2 =>
              have H := HA.out
              clear HA
              simp only [flagstonelaw2_cut.l0] at H
              by_cases c11 : x4_2 < (x0_1.length : Int)
              · rw [if_pos c11] at H
                have c11b0 : decide (x4_2 < (x0_1.length : Int)) = true := decide_eq_true c11
                clear c11
                by_cases c12 : 0 ≤ x4_2
                · rw [if_pos c12] at H
                  have c12b0 : decide (0 ≤ x4_2) = true := decide_eq_true c12
                  clear c12
                  by_cases c13 : x4_2 < (x3_2.length : Int)
                  · rw [if_pos c13] at H
                    have c13b0 : decide (x4_2 < (x3_2.length : Int)) = true := decide_eq_true c13
                    clear c13
                    obtain ⟨y173, hy173⟩ : ∃ y_ : List (List Int), y_ = (x3_2.set (x4_2 : Int).toNat (rd_L1 x0_1 x4_2)) := ⟨_, rfl⟩
                    replace H : (if ((rd_L1 x0_1 x4_2).length : Int) > 300 then (if 300 ≤ ((rd_L1 x0_1 x4_2).length : Int) then (flagstonelaw2_cut.l0 k2 x0_1 (y173.set (x4_2 : Int).toNat ((rd_L1 x0_1 x4_2).take 300)) (wrap64 (x4_2 + 1))) else (none)) else (flagstonelaw2_cut.l0 k2 x0_1 y173 (wrap64 (x4_2 + 1)))) = some r := by first | (rw [hy173]; with_reducible exact H) | (have H2_ := (Option.bind_some _ _).symm.trans H; rw [hy173]; with_reducible exact H2_) | (have H2_ := (Option.bind_some _ _).symm.trans H; with_reducible exact H2_) | with_reducible exact H | (rw [hy173]; exact H) | exact H
                    have Ny173 := Aside0.mk hy173
                    clear hy173
                    by_cases c15 : ((rd_L1 x0_1 x4_2).length : Int) > 300
                    · rw [if_pos c15] at H
                      have c15b0 : decide (300 < ((rd_L1 x0_1 x4_2).length : Int)) = true := decide_eq_true c15
                      have c15b1 : decide (300 < (rd_L1 x0_1 x4_2).length) = true := decide_eq_true (by omega)
                      clear c15
                      by_cases c16 : 300 ≤ ((rd_L1 x0_1 x4_2).length : Int)
                      · rw [if_pos c16] at H
                        have c16b0 := eq_true c16
                        have c16b1 : decide (300 ≤ ((rd_L1 x0_1 x4_2).length : Int)) = true := decide_eq_true c16
                        clear c16
                        obtain ⟨y176, hy176⟩ : ∃ y_ : List Int, y_ = ((rd_L1 x0_1 x4_2).take 300) := ⟨_, rfl⟩
                        replace H : (flagstonelaw2_cut.l0 k2 x0_1 (y173.set (x4_2 : Int).toNat y176) (wrap64 (x4_2 + 1))) = some r := by first | (rw [hy176]; with_reducible exact H) | (have H2_ := (Option.bind_some _ _).symm.trans H; rw [hy176]; with_reducible exact H2_) | (have H2_ := (Option.bind_some _ _).symm.trans H; with_reducible exact H2_) | with_reducible exact H | (rw [hy176]; exact H) | exact H
                        have Ny176 := Aside0.mk hy176
                        clear hy176
                        obtain ⟨y181, hy181⟩ : ∃ y_ : List (List Int), y_ = (y173.set (x4_2 : Int).toNat y176) := ⟨_, rfl⟩
                        replace H : (flagstonelaw2_cut.l0 k2 x0_1 y181 (wrap64 (x4_2 + 1))) = some r := by first | (rw [hy181]; with_reducible exact H) | (have H2_ := (Option.bind_some _ _).symm.trans H; rw [hy181]; with_reducible exact H2_) | (have H2_ := (Option.bind_some _ _).symm.trans H; with_reducible exact H2_) | with_reducible exact H | (rw [hy181]; exact H) | exact H
                        have Ny181 := Aside0.mk hy181
                        clear hy181
                        have H' := Aside0.mk H
                        clear H
                        have p172 : 0 ≤ (x4_2 : Int) := of_decide_eq_true (by first | (with_reducible assumption) | assumption)
                        have q172 : x4_2 < (x0_1.length : Int) := of_decide_eq_true (by first | (with_reducible assumption) | assumption)
                        obtain ⟨ad172, A172_0, c172_0, e172, hx172_0, hl172_0, hi172_0⟩ := at_L1 (Kd.V_reads' HO_0.out).2.2 x4_2 p172 q172
                        cases e172
                        obtain ⟨ce172, hce172, hMe172, hcc172⟩ := Kd.V_get HO_0.out [] x4_2 p172 (by first | exact q172 | exact of_decide_eq_true (by first | (with_reducible assumption) | assumption) | (have e_ := (Kd.V_reads' HO_0.out).1; omega))
                        obtain ⟨ua172_0, uc172_0, rfl, ul172_0, ge172_0⟩ := Kd.FK_slice_open hMe172
                        have hv172_0 := hcc172 0 _ rfl
                        rw [Nat.add_zero, show ((Kd.slice 5 (Kd.int .u8))).sz = 1 from rfl, Nat.mul_one] at hv172_0
                        replace hv172_0 := Option.some.inj (hv172_0.symm.trans hx172_0)
                        injection hv172_0 with hva_ hvn_ hvc_
                        rw [hva_] at ge172_0
                        rw [hvc_] at ul172_0
                        have HL172_0 := Aside0.mk (show Kd.V (Kd.int .u8) 5 _ w.heap.size _ _ (rd_L1 x0_1 x4_2) from Kd.V_mk ul172_0 ge172_0)
                        clear hva_ hvn_ hvc_ ge172_0 ul172_0
                        clear hcc172 hce172
                        have HR172_0 := Aside0.mk hi172_0
                        have HC172_0 := Aside0.mk hl172_0
                        clear hi172_0 hl172_0
                        replace p172 := eq_true p172
                        replace q172 := eq_true q172
                        have p14 : 0 ≤ (x4_2 : Int) := of_decide_eq_true (by first | (with_reducible assumption) | assumption)
                        have q14 : (x4_2 : Int) < ((x3_2.length : Int) : Int) := of_decide_eq_true (by first | (with_reducible assumption) | assumption)
                        obtain ⟨go14, co14, eo14, gb14, gl14, cl14, HG14⟩ := Kd.N_form HO_3.out (by omega)
                        (first | cases eo14 | (injection eo14 with ea_ en_ ec_; (first | subst ea_ | (injection ea_ with ea_; subst ea_)); subst ec_; clear en_))
                        have GB14 := Aside0.mk gb14
                        have GG14 := Aside0.mk HG14
                        clear gb14 gl14 HG14
                        obtain ⟨ce14, hcl14, hM14, hcc14, hfr14⟩ := Kd.N_elem HO_3.out [] (x4_2 : Int) p14 q14
                        obtain ⟨ua14_0, uc14_0, rfl, ul14_0, ge14_0⟩ := Kd.FK_slice_open hM14
                        have hx14_0 := hcc14 0 _ rfl
                        have hf14_0 := hfr14 0
                        (try simp only [show ((Kd.slice 5 (Kd.int .u8))).sz = 1 from rfl, Nat.mul_one, Nat.add_zero] at hx14_0)
                        (try simp only [show ((Kd.slice 5 (Kd.int .u8))).sz = 1 from rfl, Nat.mul_one, Nat.add_zero] at hf14_0)
                        clear hcl14 hcc14 hfr14 hM14
                        replace p14 := eq_true p14
                        replace q14 := eq_true q14
                        have HX18 := Aside0.mk (show Kd.N (Kd.slice 5 (Kd.int .u8)) 23 wr w.heap.size (fun k_ => (P0_ k_ ∨ w.heap.size ≤ k_)) (.slice (some ⟨go14, 0, none⟩) x3_2.length co14) x3_2 from (by (with_reducible repeat (first | apply Kd.N_alloc | apply Kd.N_drewN | apply Kd.N_drew)); exact HO_3.out))
                        obtain ⟨ce18, hcl18, hM18, hcc18, hfr18⟩ := Kd.N_elem HX18.out [] (x4_2 : Int) (of_decide_eq_true (by first | (with_reducible assumption) | assumption)) (by have h_ : (x4_2 : Int) < ((x3_2.length : Int) : Int) := of_decide_eq_true (by first | (with_reducible assumption) | assumption); first | exact h_ | (have e_ := (Kd.N_reads' HO_3.out).1; omega) | simpa using h_)
                        obtain ⟨ua18_0, uc18_0, rfl, ul18_0, ge18_0⟩ := Kd.FK_slice_open hM18
                        have HP18 := Kd.N_seg HX18.out (x4_2 : Int) (of_decide_eq_true (by first | (with_reducible assumption) | assumption)) (by have h_ : (x4_2 : Int) < ((x3_2.length : Int) : Int) := of_decide_eq_true (by first | (with_reducible assumption) | assumption); first | exact h_ | (have e_ := (Kd.N_reads' HO_3.out).1; omega) | simpa using h_) (seg := [.slice A172_0 (rd_L1 x0_1 x4_2).length c172_0]) (j := 0) hcl18 hcc18 (show 1 ≤ 1 from by decide) (x' := rd_L1 x0_1 x4_2) (Kd.FK_slice_mk (Kd.V_reads' (Kd.V_mono (ok' := (fun k_ => ((fun k_ => (P0_ k_ ∨ w.heap.size ≤ k_))) k_ ∧ k_ ≠ go14)) (HL172_0.out) (fun k_ hk => ⟨hk.1, fun e_ => (hk.2) (by rw [e_]; rfl)⟩))).2.1 (Kd.V_F (Kd.V_mono (ok' := (fun k_ => ((fun k_ => (P0_ k_ ∨ w.heap.size ≤ k_))) k_ ∧ k_ ≠ go14)) (HL172_0.out) (fun k_ hk => ⟨hk.1, fun e_ => (hk.2) (by rw [e_]; rfl)⟩)))) (fun _ hk => hk)
                        have hx18_0 := hcc18 0 _ rfl
                        (try simp only [show ((Kd.slice 5 (Kd.int .u8))).sz = 1 from rfl, Nat.mul_one, Nat.add_zero] at hx18_0)
                        have hf18_0 := hfr18 0
                        (try simp only [show ((Kd.slice 5 (Kd.int .u8))).sz = 1 from rfl, Nat.mul_one, Nat.add_zero] at hf18_0)
                        clear hcl18 hcc18 hfr18 hM18
                        (try simp only [show ((Kd.slice 5 (Kd.int .u8))).sz = 1 from rfl, Nat.mul_one, Nat.add_zero] at HP18)
                        (try simp only [show ((Kd.slice 5 (Kd.int .u8))).sz = 1 from rfl, Nat.mul_one, Nat.add_zero] at HP18)
                        go_wp2_with (first | ((with_reducible refine gate_store (t := 23) (p := 25) rfl ?_); refine store_event (t := 23) (p := 25) (v := ?vo_w19) (w1 := (wr.setCell ⟨go14, (x4_2 : Int).toNat, none⟩ (.slice A172_0 (rd_L1 x0_1 x4_2).length c172_0))) ?hg ?ho ?hn ?hr ?_; (case ho => rfl); (case hg => rfl); (case hn => rfl); (case hr => first | (go_simp; done) | (go_simp; rfl)); intro w19 hw; have hg : wr.grownBy w19 (some go14) := (by rw [hw]; exact HP18.2); have hp_ : Kd.N (Kd.slice 5 (Kd.int .u8)) 23 w19 w.heap.size (fun k_ => (P0_ k_ ∨ w.heap.size ≤ k_)) (.slice (some ⟨go14, 0, none⟩) x3_2.length co14) y173 := (by rw [hw, Ny173.out]; exact HP18.1); clear HP18; have n0_ := Aside0.mk (Kd.V_afterv (v := (.slice (some ⟨go14, 0, none⟩) x3_2.length co14)) (v1 := (.slice (some ⟨go14, 0, none⟩) x3_2.length co14)) (ok := (fun k_ => (P0_ k_ ∨ w.heap.size ≤ k_))) (by (with_reducible repeat (first | apply Kd.V_alloc | apply Kd.V_drewN | apply Kd.V_drew)); exact HO_0.out) hg (.inl rfl)); have n1_ := Aside0.mk (hp_); have n2_ := Aside0.mk (Kd.V_afterv (v := (.slice (some ⟨go14, 0, none⟩) x3_2.length co14)) (v1 := (.slice (some ⟨go14, 0, none⟩) x3_2.length co14)) (ok := (fun k_ => (P0_ k_ ∨ w.heap.size ≤ k_))) (by (with_reducible repeat (first | apply Kd.V_alloc | apply Kd.V_drewN | apply Kd.V_drew)); exact HL172_0.out) hg (.inl rfl)); have n3_ := Aside0.mk ((by rw [hw]; exact below_set (HB.out) GB14.out : Below w.heap.size w w19)); clear HO_0; clear HO_3; clear HL172_0; clear HB; have HO_0 := n0_; have HO_3 := n1_; have HL172_0 := n2_; have HB := n3_; clear n0_ n1_ n2_ n3_; clear hg hw hp_; have p174 : 0 ≤ (x4_2 : Int) := of_decide_eq_true (by first | (with_reducible assumption) | assumption); have q174 : x4_2 < (x0_1.length : Int) := of_decide_eq_true (by first | (with_reducible assumption) | assumption); obtain ⟨ad174, A174_0, c174_0, e174, hx174_0, hl174_0, hi174_0⟩ := at_L1 (Kd.V_reads' HO_0.out).2.2 x4_2 p174 q174; obtain rfl : ad172 = ad174 := (by injection e174); obtain ⟨ce174, hce174, hMe174, hcc174⟩ := Kd.V_get HO_0.out [] x4_2 p174 (by first | exact q174 | exact of_decide_eq_true (by first | (with_reducible assumption) | assumption) | (have e_ := (Kd.V_reads' HO_0.out).1; omega)); obtain ⟨ua174_0, uc174_0, rfl, ul174_0, ge174_0⟩ := Kd.FK_slice_open hMe174; have hv174_0 := hcc174 0 _ rfl; rw [Nat.add_zero, show ((Kd.slice 5 (Kd.int .u8))).sz = 1 from rfl, Nat.mul_one] at hv174_0; replace hv174_0 := Option.some.inj (hv174_0.symm.trans hx174_0); injection hv174_0 with hva_ hvn_ hvc_; rw [hva_] at ge174_0; rw [hvc_] at ul174_0; have HL174_0 := Aside0.mk (show Kd.V (Kd.int .u8) 5 _ w.heap.size _ _ (rd_L1 x0_1 x4_2) from Kd.V_mk ul174_0 ge174_0); clear hva_ hvn_ hvc_ ge174_0 ul174_0; clear hcc174 hce174; have HR174_0 := Aside0.mk hi174_0; have HC174_0 := Aside0.mk hl174_0; clear hi174_0 hl174_0; replace p174 := eq_true p174; replace q174 := eq_true q174; have p175 : 0 ≤ (x4_2 : Int) := of_decide_eq_true (by first | (with_reducible assumption) | assumption); have q175 : x4_2 < (x0_1.length : Int) := of_decide_eq_true (by first | (with_reducible assumption) | assumption); obtain ⟨ad175, A175_0, c175_0, e175, hx175_0, hl175_0, hi175_0⟩ := at_L1 (Kd.V_reads' HO_0.out).2.2 x4_2 p175 q175; obtain rfl : ad172 = ad175 := (by injection e175); obtain ⟨ce175, hce175, hMe175, hcc175⟩ := Kd.V_get HO_0.out [] x4_2 p175 (by first | exact q175 | exact of_decide_eq_true (by first | (with_reducible assumption) | assumption) | (have e_ := (Kd.V_reads' HO_0.out).1; omega)); obtain ⟨ua175_0, uc175_0, rfl, ul175_0, ge175_0⟩ := Kd.FK_slice_open hMe175; have hv175_0 := hcc175 0 _ rfl; rw [Nat.add_zero, show ((Kd.slice 5 (Kd.int .u8))).sz = 1 from rfl, Nat.mul_one] at hv175_0; replace hv175_0 := Option.some.inj (hv175_0.symm.trans hx175_0); injection hv175_0 with hva_ hvn_ hvc_; rw [hva_] at ge175_0; rw [hvc_] at ul175_0; have HL175_0 := Aside0.mk (show Kd.V (Kd.int .u8) 5 _ w.heap.size _ _ (rd_L1 x0_1 x4_2) from Kd.V_mk ul175_0 ge175_0); clear hva_ hvn_ hvc_ ge175_0 ul175_0; clear hcc175 hce175; have HR175_0 := Aside0.mk hi175_0; have HC175_0 := Aside0.mk hl175_0; clear hi175_0 hl175_0; replace p175 := eq_true p175; replace q175 := eq_true q175; have ea_ := Option.some.inj (hx174_0.symm.trans hx175_0); injection ea_ with ea_ en_ ec_; subst ea_; subst ec_; clear en_; have q20 : (300 : Int) ≤ (((rd_L1 x0_1 x4_2).length : Int) : Int) := of_decide_eq_true (by first | (with_reducible assumption) | assumption); obtain ⟨i020, hi020, _, hsz20, _⟩ := info_parts info5; have hroom20 : (rd_L1 x0_1 x4_2).length ≤ c174_0 := HC175_0.out; have hC20 : Kd.F (Kd.int .u8) _ _ A174_0 (rd_L1 x0_1 x4_2).length (rd_L1 x0_1 x4_2) := (Kd.V_at (base := w.heap.size) HL175_0.out).2.2; have hcut20 := cut_to (P := Try.prog) 23 5 .i64 Try.underlying23 hi020 A174_0 (rd_L1 x0_1 x4_2).length c174_0 300 (by omega) q20 hroom20; have hr20 := Kd.F_take (m := 300) hC20 (by omega); have hy20 : y176.length = (300 : Int).toNat := (by rw [Ny176.out, List.length_take]; omega); rw [← Ny176.out] at hr20; rw [← hy20] at hcut20; have HO180 := Aside0.mk (show Kd.V (Kd.int .u8) 5 _ w.heap.size _ (.slice A174_0 y176.length c174_0) y176 from Kd.V_mk (by omega) hr20); have HC180 := Aside0.mk (show y176.length ≤ c174_0 from by omega); clear hr20 hC20 hroom20 hi020 hsz20; have KY20 := Aside0.mk hy20; clear hy20; replace q20 := eq_true q20; have p17 : 0 ≤ (x4_2 : Int) := of_decide_eq_true (by first | (with_reducible assumption) | assumption); have q17 : (x4_2 : Int) < ((x3_2.length : Int) : Int) := of_decide_eq_true (by first | (with_reducible assumption) | assumption); obtain ⟨ce17, hcl17, hM17, hcc17, hfr17⟩ := Kd.N_elem HO_3.out [] (x4_2 : Int) p17 q17; obtain ⟨ua17_0, uc17_0, rfl, ul17_0, ge17_0⟩ := Kd.FK_slice_open hM17; have hx17_0 := hcc17 0 _ rfl; have hf17_0 := hfr17 0; (try simp only [show ((Kd.slice 5 (Kd.int .u8))).sz = 1 from rfl, Nat.mul_one, Nat.add_zero] at hx17_0); (try simp only [show ((Kd.slice 5 (Kd.int .u8))).sz = 1 from rfl, Nat.mul_one, Nat.add_zero] at hf17_0); clear hcl17 hcc17 hfr17 hM17; replace p17 := eq_true p17; replace q17 := eq_true q17; have HX21 := Aside0.mk (show Kd.N (Kd.slice 5 (Kd.int .u8)) 23 w19 w.heap.size (fun k_ => (P0_ k_ ∨ w.heap.size ≤ k_)) (.slice (some ⟨go14, 0, none⟩) x3_2.length co14) y173 from (by (with_reducible repeat (first | apply Kd.N_alloc | apply Kd.N_drewN | apply Kd.N_drew)); exact HO_3.out)); obtain ⟨ce21, hcl21, hM21, hcc21, hfr21⟩ := Kd.N_elem HX21.out [] (x4_2 : Int) (of_decide_eq_true (by first | (with_reducible assumption) | assumption)) (by have h_ : (x4_2 : Int) < ((x3_2.length : Int) : Int) := of_decide_eq_true (by first | (with_reducible assumption) | assumption); first | exact h_ | (have e_ := (Kd.N_reads' HO_3.out).1; omega) | simpa using h_); obtain ⟨ua21_0, uc21_0, rfl, ul21_0, ge21_0⟩ := Kd.FK_slice_open hM21; have HP21 := Kd.N_seg HX21.out (x4_2 : Int) (of_decide_eq_true (by first | (with_reducible assumption) | assumption)) (by have h_ : (x4_2 : Int) < ((x3_2.length : Int) : Int) := of_decide_eq_true (by first | (with_reducible assumption) | assumption); first | exact h_ | (have e_ := (Kd.N_reads' HO_3.out).1; omega) | simpa using h_) (seg := [.slice A174_0 y176.length c174_0]) (j := 0) hcl21 hcc21 (show 1 ≤ 1 from by decide) (x' := y176) (Kd.FK_slice_mk (Kd.V_reads' (Kd.V_mono (ok' := (fun k_ => ((fun k_ => (P0_ k_ ∨ w.heap.size ≤ k_))) k_ ∧ k_ ≠ go14)) (HO180.out) (fun k_ hk => ⟨hk.1, fun e_ => (hk.2) (by rw [e_]; rfl)⟩))).2.1 (Kd.V_F (Kd.V_mono (ok' := (fun k_ => ((fun k_ => (P0_ k_ ∨ w.heap.size ≤ k_))) k_ ∧ k_ ≠ go14)) (HO180.out) (fun k_ hk => ⟨hk.1, fun e_ => (hk.2) (by rw [e_]; rfl)⟩)))) (fun _ hk => hk); have hx21_0 := hcc21 0 _ rfl; (try simp only [show ((Kd.slice 5 (Kd.int .u8))).sz = 1 from rfl, Nat.mul_one, Nat.add_zero] at hx21_0); have hf21_0 := hfr21 0; (try simp only [show ((Kd.slice 5 (Kd.int .u8))).sz = 1 from rfl, Nat.mul_one, Nat.add_zero] at hf21_0); clear hcl21 hcc21 hfr21 hM21; (try simp only [show ((Kd.slice 5 (Kd.int .u8))).sz = 1 from rfl, Nat.mul_one, Nat.add_zero] at HP21); (try simp only [show ((Kd.slice 5 (Kd.int .u8))).sz = 1 from rfl, Nat.mul_one, Nat.add_zero] at HP21)) | ((with_reducible refine gate_store (t := 23) (p := 39) rfl ?_); refine store_event (t := 23) (p := 39) (v := ?vo_w22) (w1 := (w19.setCell ⟨go14, (x4_2 : Int).toNat, none⟩ (.slice A174_0 y176.length c174_0))) ?hg ?ho ?hn ?hr ?_; (case ho => rfl); (case hg => rfl); (case hn => rfl); (case hr => first | (go_simp; done) | (go_simp; rfl)); intro w22 hw; have hg : w19.grownBy w22 (some go14) := (by rw [hw]; exact HP21.2); have hp_ : Kd.N (Kd.slice 5 (Kd.int .u8)) 23 w22 w.heap.size (fun k_ => (P0_ k_ ∨ w.heap.size ≤ k_)) (.slice (some ⟨go14, 0, none⟩) x3_2.length co14) y181 := (by rw [hw, Ny181.out]; exact HP21.1); clear HP21; have n0_ := Aside0.mk (Kd.V_afterv (v := (.slice (some ⟨go14, 0, none⟩) x3_2.length co14)) (v1 := (.slice (some ⟨go14, 0, none⟩) x3_2.length co14)) (ok := (fun k_ => (P0_ k_ ∨ w.heap.size ≤ k_))) (by (with_reducible repeat (first | apply Kd.V_alloc | apply Kd.V_drewN | apply Kd.V_drew)); exact HO_0.out) hg (.inl rfl)); have n1_ := Aside0.mk (hp_); have n2_ := Aside0.mk (Kd.V_afterv (v := (.slice (some ⟨go14, 0, none⟩) x3_2.length co14)) (v1 := (.slice (some ⟨go14, 0, none⟩) x3_2.length co14)) (ok := (fun k_ => (P0_ k_ ∨ w.heap.size ≤ k_))) (by (with_reducible repeat (first | apply Kd.V_alloc | apply Kd.V_drewN | apply Kd.V_drew)); exact HL172_0.out) hg (.inl rfl)); have n3_ := Aside0.mk (Kd.V_afterv (v := (.slice (some ⟨go14, 0, none⟩) x3_2.length co14)) (v1 := (.slice (some ⟨go14, 0, none⟩) x3_2.length co14)) (ok := (fun k_ => (P0_ k_ ∨ w.heap.size ≤ k_))) (by (with_reducible repeat (first | apply Kd.V_alloc | apply Kd.V_drewN | apply Kd.V_drew)); exact HL174_0.out) hg (.inl rfl)); have n4_ := Aside0.mk (Kd.V_afterv (v := (.slice (some ⟨go14, 0, none⟩) x3_2.length co14)) (v1 := (.slice (some ⟨go14, 0, none⟩) x3_2.length co14)) (ok := (fun k_ => (P0_ k_ ∨ w.heap.size ≤ k_))) (by (with_reducible repeat (first | apply Kd.V_alloc | apply Kd.V_drewN | apply Kd.V_drew)); exact HL175_0.out) hg (.inl rfl)); have n5_ := Aside0.mk (Kd.V_afterv (v := (.slice (some ⟨go14, 0, none⟩) x3_2.length co14)) (v1 := (.slice (some ⟨go14, 0, none⟩) x3_2.length co14)) (ok := (fun k_ => (P0_ k_ ∨ w.heap.size ≤ k_))) (by (with_reducible repeat (first | apply Kd.V_alloc | apply Kd.V_drewN | apply Kd.V_drew)); exact HO180.out) hg (.inl rfl)); have n6_ := Aside0.mk ((by rw [hw]; exact below_set (HB.out) GB14.out : Below w.heap.size w w22)); clear HO_0; clear HO_3; clear HL172_0; clear HL174_0; clear HL175_0; clear HO180; clear HB; have HO_0 := n0_; have HO_3 := n1_; have HL172_0 := n2_; have HL174_0 := n3_; have HL175_0 := n4_; have HO180 := n5_; have HB := n6_; clear n0_ n1_ n2_ n3_ n4_ n5_ n6_; clear hg hw hp_))
                        go_roundg k2
                        case measure => have := HJ1.out; have := HK2.out; omega
                        case rel => exact ⟨(y181), (wrap64 (x4_2 + 1)), (by first | rfl | (simp; done) | (simp [*]; done)), H', ⟨by have := HJ1.out; have := HK2.out; omega⟩, ⟨by (with_reducible repeat (first | apply Kd.V_alloc | apply Kd.V_drewN | apply Kd.V_drew)); exact HO_0.out⟩, ⟨by (with_reducible repeat (first | apply Kd.N_alloc | apply Kd.N_drewN | apply Kd.N_drew)); exact HO_3.out⟩, ⟨by repeat (first | (with_reducible first | exact HB.out | apply below_alloc | apply pw_below_drewN | apply below_drew1) | exact HB.out)⟩⟩
                      · rw [if_neg c16] at H
                        exact absurd H (by simp)
                    · rw [if_neg c15] at H
                      have c15b0 : decide (300 < ((rd_L1 x0_1 x4_2).length : Int)) = false := decide_eq_false c15
                      have c15b1 : decide (300 < (rd_L1 x0_1 x4_2).length) = false := decide_eq_false (by omega)
                      clear c15
                      have H' := Aside0.mk H
                      clear H
                      have p172 : 0 ≤ (x4_2 : Int) := of_decide_eq_true (by first | (with_reducible assumption) | assumption)
                      have q172 : x4_2 < (x0_1.length : Int) := of_decide_eq_true (by first | (with_reducible assumption) | assumption)
                      obtain ⟨ad172, A172_0, c172_0, e172, hx172_0, hl172_0, hi172_0⟩ := at_L1 (Kd.V_reads' HO_0.out).2.2 x4_2 p172 q172
                      cases e172
                      obtain ⟨ce172, hce172, hMe172, hcc172⟩ := Kd.V_get HO_0.out [] x4_2 p172 (by first | exact q172 | exact of_decide_eq_true (by first | (with_reducible assumption) | assumption) | (have e_ := (Kd.V_reads' HO_0.out).1; omega))
                      obtain ⟨ua172_0, uc172_0, rfl, ul172_0, ge172_0⟩ := Kd.FK_slice_open hMe172
                      have hv172_0 := hcc172 0 _ rfl
                      rw [Nat.add_zero, show ((Kd.slice 5 (Kd.int .u8))).sz = 1 from rfl, Nat.mul_one] at hv172_0
                      replace hv172_0 := Option.some.inj (hv172_0.symm.trans hx172_0)
                      injection hv172_0 with hva_ hvn_ hvc_
                      rw [hva_] at ge172_0
                      rw [hvc_] at ul172_0
                      have HL172_0 := Aside0.mk (show Kd.V (Kd.int .u8) 5 _ w.heap.size _ _ (rd_L1 x0_1 x4_2) from Kd.V_mk ul172_0 ge172_0)
                      clear hva_ hvn_ hvc_ ge172_0 ul172_0
                      clear hcc172 hce172
                      have HR172_0 := Aside0.mk hi172_0
                      have HC172_0 := Aside0.mk hl172_0
                      clear hi172_0 hl172_0
                      replace p172 := eq_true p172
                      replace q172 := eq_true q172
                      have p14 : 0 ≤ (x4_2 : Int) := of_decide_eq_true (by first | (with_reducible assumption) | assumption)
                      have q14 : (x4_2 : Int) < ((x3_2.length : Int) : Int) := of_decide_eq_true (by first | (with_reducible assumption) | assumption)
                      obtain ⟨go14, co14, eo14, gb14, gl14, cl14, HG14⟩ := Kd.N_form HO_3.out (by omega)
                      (first | cases eo14 | (injection eo14 with ea_ en_ ec_; (first | subst ea_ | (injection ea_ with ea_; subst ea_)); subst ec_; clear en_))
                      have GB14 := Aside0.mk gb14
                      have GG14 := Aside0.mk HG14
                      clear gb14 gl14 HG14
                      obtain ⟨ce14, hcl14, hM14, hcc14, hfr14⟩ := Kd.N_elem HO_3.out [] (x4_2 : Int) p14 q14
                      obtain ⟨ua14_0, uc14_0, rfl, ul14_0, ge14_0⟩ := Kd.FK_slice_open hM14
                      have hx14_0 := hcc14 0 _ rfl
                      have hf14_0 := hfr14 0
                      (try simp only [show ((Kd.slice 5 (Kd.int .u8))).sz = 1 from rfl, Nat.mul_one, Nat.add_zero] at hx14_0)
                      (try simp only [show ((Kd.slice 5 (Kd.int .u8))).sz = 1 from rfl, Nat.mul_one, Nat.add_zero] at hf14_0)
                      clear hcl14 hcc14 hfr14 hM14
                      replace p14 := eq_true p14
                      replace q14 := eq_true q14
                      have HX23 := Aside0.mk (show Kd.N (Kd.slice 5 (Kd.int .u8)) 23 wr w.heap.size (fun k_ => (P0_ k_ ∨ w.heap.size ≤ k_)) (.slice (some ⟨go14, 0, none⟩) x3_2.length co14) x3_2 from (by (with_reducible repeat (first | apply Kd.N_alloc | apply Kd.N_drewN | apply Kd.N_drew)); exact HO_3.out))
                      obtain ⟨ce23, hcl23, hM23, hcc23, hfr23⟩ := Kd.N_elem HX23.out [] (x4_2 : Int) (of_decide_eq_true (by first | (with_reducible assumption) | assumption)) (by have h_ : (x4_2 : Int) < ((x3_2.length : Int) : Int) := of_decide_eq_true (by first | (with_reducible assumption) | assumption); first | exact h_ | (have e_ := (Kd.N_reads' HO_3.out).1; omega) | simpa using h_)
                      obtain ⟨ua23_0, uc23_0, rfl, ul23_0, ge23_0⟩ := Kd.FK_slice_open hM23
                      have HP23 := Kd.N_seg HX23.out (x4_2 : Int) (of_decide_eq_true (by first | (with_reducible assumption) | assumption)) (by have h_ : (x4_2 : Int) < ((x3_2.length : Int) : Int) := of_decide_eq_true (by first | (with_reducible assumption) | assumption); first | exact h_ | (have e_ := (Kd.N_reads' HO_3.out).1; omega) | simpa using h_) (seg := [.slice A172_0 (rd_L1 x0_1 x4_2).length c172_0]) (j := 0) hcl23 hcc23 (show 1 ≤ 1 from by decide) (x' := rd_L1 x0_1 x4_2) (Kd.FK_slice_mk (Kd.V_reads' (Kd.V_mono (ok' := (fun k_ => ((fun k_ => (P0_ k_ ∨ w.heap.size ≤ k_))) k_ ∧ k_ ≠ go14)) (HL172_0.out) (fun k_ hk => ⟨hk.1, fun e_ => (hk.2) (by rw [e_]; rfl)⟩))).2.1 (Kd.V_F (Kd.V_mono (ok' := (fun k_ => ((fun k_ => (P0_ k_ ∨ w.heap.size ≤ k_))) k_ ∧ k_ ≠ go14)) (HL172_0.out) (fun k_ hk => ⟨hk.1, fun e_ => (hk.2) (by rw [e_]; rfl)⟩)))) (fun _ hk => hk)
                      have hx23_0 := hcc23 0 _ rfl
                      (try simp only [show ((Kd.slice 5 (Kd.int .u8))).sz = 1 from rfl, Nat.mul_one, Nat.add_zero] at hx23_0)
                      have hf23_0 := hfr23 0
                      (try simp only [show ((Kd.slice 5 (Kd.int .u8))).sz = 1 from rfl, Nat.mul_one, Nat.add_zero] at hf23_0)
                      clear hcl23 hcc23 hfr23 hM23
                      (try simp only [show ((Kd.slice 5 (Kd.int .u8))).sz = 1 from rfl, Nat.mul_one, Nat.add_zero] at HP23)
                      (try simp only [show ((Kd.slice 5 (Kd.int .u8))).sz = 1 from rfl, Nat.mul_one, Nat.add_zero] at HP23)
                      go_wp2_with (first | ((with_reducible refine gate_store (t := 23) (p := 25) rfl ?_); refine store_event (t := 23) (p := 25) (v := ?vo_w24) (w1 := (wr.setCell ⟨go14, (x4_2 : Int).toNat, none⟩ (.slice A172_0 (rd_L1 x0_1 x4_2).length c172_0))) ?hg ?ho ?hn ?hr ?_; (case ho => rfl); (case hg => rfl); (case hn => rfl); (case hr => first | (go_simp; done) | (go_simp; rfl)); intro w24 hw; have hg : wr.grownBy w24 (some go14) := (by rw [hw]; exact HP23.2); have hp_ : Kd.N (Kd.slice 5 (Kd.int .u8)) 23 w24 w.heap.size (fun k_ => (P0_ k_ ∨ w.heap.size ≤ k_)) (.slice (some ⟨go14, 0, none⟩) x3_2.length co14) y173 := (by rw [hw, Ny173.out]; exact HP23.1); clear HP23; have n0_ := Aside0.mk (Kd.V_afterv (v := (.slice (some ⟨go14, 0, none⟩) x3_2.length co14)) (v1 := (.slice (some ⟨go14, 0, none⟩) x3_2.length co14)) (ok := (fun k_ => (P0_ k_ ∨ w.heap.size ≤ k_))) (by (with_reducible repeat (first | apply Kd.V_alloc | apply Kd.V_drewN | apply Kd.V_drew)); exact HO_0.out) hg (.inl rfl)); have n1_ := Aside0.mk (hp_); have n2_ := Aside0.mk (Kd.V_afterv (v := (.slice (some ⟨go14, 0, none⟩) x3_2.length co14)) (v1 := (.slice (some ⟨go14, 0, none⟩) x3_2.length co14)) (ok := (fun k_ => (P0_ k_ ∨ w.heap.size ≤ k_))) (by (with_reducible repeat (first | apply Kd.V_alloc | apply Kd.V_drewN | apply Kd.V_drew)); exact HL172_0.out) hg (.inl rfl)); have n3_ := Aside0.mk ((by rw [hw]; exact below_set (HB.out) GB14.out : Below w.heap.size w w24)); clear HO_0; clear HO_3; clear HL172_0; clear HB; have HO_0 := n0_; have HO_3 := n1_; have HL172_0 := n2_; have HB := n3_; clear n0_ n1_ n2_ n3_; clear hg hw hp_; have p174 : 0 ≤ (x4_2 : Int) := of_decide_eq_true (by first | (with_reducible assumption) | assumption); have q174 : x4_2 < (x0_1.length : Int) := of_decide_eq_true (by first | (with_reducible assumption) | assumption); obtain ⟨ad174, A174_0, c174_0, e174, hx174_0, hl174_0, hi174_0⟩ := at_L1 (Kd.V_reads' HO_0.out).2.2 x4_2 p174 q174; obtain rfl : ad172 = ad174 := (by injection e174); obtain ⟨ce174, hce174, hMe174, hcc174⟩ := Kd.V_get HO_0.out [] x4_2 p174 (by first | exact q174 | exact of_decide_eq_true (by first | (with_reducible assumption) | assumption) | (have e_ := (Kd.V_reads' HO_0.out).1; omega)); obtain ⟨ua174_0, uc174_0, rfl, ul174_0, ge174_0⟩ := Kd.FK_slice_open hMe174; have hv174_0 := hcc174 0 _ rfl; rw [Nat.add_zero, show ((Kd.slice 5 (Kd.int .u8))).sz = 1 from rfl, Nat.mul_one] at hv174_0; replace hv174_0 := Option.some.inj (hv174_0.symm.trans hx174_0); injection hv174_0 with hva_ hvn_ hvc_; rw [hva_] at ge174_0; rw [hvc_] at ul174_0; have HL174_0 := Aside0.mk (show Kd.V (Kd.int .u8) 5 _ w.heap.size _ _ (rd_L1 x0_1 x4_2) from Kd.V_mk ul174_0 ge174_0); clear hva_ hvn_ hvc_ ge174_0 ul174_0; clear hcc174 hce174; have HR174_0 := Aside0.mk hi174_0; have HC174_0 := Aside0.mk hl174_0; clear hi174_0 hl174_0; replace p174 := eq_true p174; replace q174 := eq_true q174))
                      go_roundg k2
                      case measure => have := HJ1.out; have := HK2.out; omega
                      case rel => exact ⟨(y173), (wrap64 (x4_2 + 1)), (by first | rfl | (simp; done) | (simp [*]; done)), H', ⟨by have := HJ1.out; have := HK2.out; omega⟩, ⟨by (with_reducible repeat (first | apply Kd.V_alloc | apply Kd.V_drewN | apply Kd.V_drew)); exact HO_0.out⟩, ⟨by (with_reducible repeat (first | apply Kd.N_alloc | apply Kd.N_drewN | apply Kd.N_drew)); exact HO_3.out⟩, ⟨by repeat (first | (with_reducible first | exact HB.out | apply below_alloc | apply pw_below_drewN | apply below_drew1) | exact HB.out)⟩⟩
                  · rw [if_neg c13] at H
                    exact absurd H (by simp)
                · rw [if_neg c12] at H
                  exact absurd H (by simp)
              · rw [if_neg c11] at H
                have c11b0 : decide (x4_2 < (x0_1.length : Int)) = false := decide_eq_false c11
                clear c11
                obtain rfl := Option.some.inj H
                go_wp2
                go_ret
                exact ⟨_, by first | rfl | (simp [errW_none, errW_some] <;> rfl) | (simp [*, errW_none, errW_some] <;> rfl), by (with_reducible repeat (first | apply Kd.N_alloc | apply Kd.N_drewN | apply Kd.N_drew)); exact HO_3.out, by repeat (first | (with_reducible first | exact HB.out | apply below_alloc | apply pw_below_drewN | apply below_drew1) | exact HB.out)⟩
        · rw [if_neg c7] at H
          exact absurd H (by simp)
      · rw [if_neg c6] at H
        exact absurd H (by simp)

end Go.Proofs.Ytedpmohnnagamaa.Print
