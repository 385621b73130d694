-- Written by a program of this session: the machine's side of a proof; Lean checks it.
import Derived.Test.YtedpmohnnagamaaPrint0
import Derived.Test.YtedpmohnnagamaaPrint1
namespace Go.Proofs.Ytedpmohnnagamaa.Print
open Go.RowKit Go.Proofs.YtedpmohnnagamaaW.PrintWords Go.Proofs.YtedpmohnnagamaaW.PrintLast Go.Proofs.YtedpmohnnagamaaW.PrintMore
attribute [local go_sem] max2_int min2_int max_two min_two max_three min_three max_four min_four   -- for this text's walks alone
set_option linter.unusedVariables false
set_option linter.unusedSimpArgs false

/-! ### flagstoneref2_Sum: function 10 -/
mutual
def flagstoneref2_Sum.l0 : Nat → List Int → Int → Int → Int → Int → Int → Option (Int)
  | 0, _, _, _, _, _, _ => none
  | k + 1, x2, x8, x125000, x125001, x125002, x125003 => if x8 ≤ (wrap64 ((x2.length : Int) / 8)) then (flagstoneref2_Sum.l1 k x2 x8 0 0 x125000 x125001 x125002 x125003) else ((flagstoneref2_state_rounds.f x125000 x125001 (Go.bits .xor .u64 x125002 255) x125003 4).bind fun bt125 => (some (Go.bits .xor .u64 (Go.bits .xor .u64 (Go.bits .xor .u64 bt125.1 bt125.2.1) bt125.2.2.1) bt125.2.2.2)))
def flagstoneref2_Sum.l1 : Nat → List Int → Int → Int → Int → Int → Int → Int → Int → Option (Int)
  | 0, _, _, _, _, _, _, _, _ => none
  | k + 1, x2, x8, x9, x10, x125000, x125001, x125002, x125003 => if x10 < 8 then (if (wrap64 ((wrap64 (8 * x8)) + x10)) < (x2.length : Int) then (if 0 ≤ (wrap64 ((wrap64 (8 * x8)) + x10)) then (if 0 ≤ (IntKind.u64.wrap (wrap64 (8 * x10))) then (flagstoneref2_Sum.l1 k x2 x8 (Go.bits .or .u64 x9 (shl .u64 (IntKind.u64.wrap (rd x2 (wrap64 ((wrap64 (8 * x8)) + x10)))) (IntKind.u64.wrap (wrap64 (8 * x10))))) (wrap64 (x10 + 1)) x125000 x125001 x125002 x125003) else (none)) else (none)) else (if x8 = (wrap64 ((x2.length : Int) / 8)) then ((flagstoneref2_state_rounds.f x125000 x125001 x125002 (Go.bits .xor .u64 x125003 (Go.bits .or .u64 x9 (((x2.length : Int) % 256) * 72057594037927936))) 2).bind fun bt130 => (flagstoneref2_Sum.l0 k x2 (wrap64 (x8 + 1)) (Go.bits .xor .u64 bt130.1 (Go.bits .or .u64 x9 (((x2.length : Int) % 256) * 72057594037927936))) bt130.2.1 bt130.2.2.1 bt130.2.2.2)) else ((flagstoneref2_state_rounds.f x125000 x125001 x125002 (Go.bits .xor .u64 x125003 x9) 2).bind fun bt134 => (flagstoneref2_Sum.l0 k x2 (wrap64 (x8 + 1)) (Go.bits .xor .u64 bt134.1 x9) bt134.2.1 bt134.2.2.1 bt134.2.2.2)))) else (if x8 = (wrap64 ((x2.length : Int) / 8)) then ((flagstoneref2_state_rounds.f x125000 x125001 x125002 (Go.bits .xor .u64 x125003 (Go.bits .or .u64 x9 (((x2.length : Int) % 256) * 72057594037927936))) 2).bind fun bt138 => (flagstoneref2_Sum.l0 k x2 (wrap64 (x8 + 1)) (Go.bits .xor .u64 bt138.1 (Go.bits .or .u64 x9 (((x2.length : Int) % 256) * 72057594037927936))) bt138.2.1 bt138.2.2.1 bt138.2.2.2)) else ((flagstoneref2_state_rounds.f x125000 x125001 x125002 (Go.bits .xor .u64 x125003 x9) 2).bind fun bt142 => (flagstoneref2_Sum.l0 k x2 (wrap64 (x8 + 1)) (Go.bits .xor .u64 bt142.1 x9) bt142.2.1 bt142.2.2.1 bt142.2.2.2)))
end
def flagstoneref2_Sum.f (k : Nat) (a0 : Int) (a1 : Int) (l2 : List Int) : Option (Int) := flagstoneref2_Sum.l0 k l2 0 (Go.bits .xor .u64 a0 8317987319222330741) (Go.bits .xor .u64 a1 7237128888997146477) (Go.bits .xor .u64 a0 7816392313619706465) (Go.bits .xor .u64 a1 8387220255154660723)
theorem flagstoneref2_Sum.mono_l : ∀ k, (∀ y0 y1 y2 y3 y4 y5, LeO (flagstoneref2_Sum.l0 k y0 y1 y2 y3 y4 y5) (flagstoneref2_Sum.l0 (k + 1) y0 y1 y2 y3 y4 y5)) ∧ (∀ y0 y1 y2 y3 y4 y5 y6 y7, LeO (flagstoneref2_Sum.l1 k y0 y1 y2 y3 y4 y5 y6 y7) (flagstoneref2_Sum.l1 (k + 1) y0 y1 y2 y3 y4 y5 y6 y7))
  | 0 => ⟨fun _ _ _ _ _ _ r h => by simp [flagstoneref2_Sum.l0] at h, fun _ _ _ _ _ _ _ _ r h => by simp [flagstoneref2_Sum.l1] at h⟩
  | k + 1 => by
    obtain ⟨ih0, ih1⟩ := flagstoneref2_Sum.mono_l k
    refine ⟨?_, ?_⟩
    · intro y0 y1 y2 y3 y4 y5
      unfold flagstoneref2_Sum.l0
      repeat' first
      | (with_reducible exact ih0 _ _ _ _ _ _)
      | (with_reducible exact ih1 _ _ _ _ _ _ _ _)
      | (with_reducible exact LeO.refl _)
      | (with_reducible exact LeO.none _)
      | (with_reducible refine LeO.ite ?_ ?_)
      | (with_reducible refine LeO.bind ?_ (fun _ => ?_))
      | exact ih0 _ _ _ _ _ _
      | exact ih1 _ _ _ _ _ _ _ _
      | exact LeO.none _
      | refine LeO.ite ?_ ?_
      | refine LeO.bind ?_ (fun _ => ?_)
    · intro y0 y1 y2 y3 y4 y5 y6 y7
      unfold flagstoneref2_Sum.l1
      repeat' first
      | (with_reducible exact ih0 _ _ _ _ _ _)
      | (with_reducible exact ih1 _ _ _ _ _ _ _ _)
      | (with_reducible exact LeO.refl _)
      | (with_reducible exact LeO.none _)
      | (with_reducible refine LeO.ite ?_ ?_)
      | (with_reducible refine LeO.bind ?_ (fun _ => ?_))
      | exact ih0 _ _ _ _ _ _
      | exact ih1 _ _ _ _ _ _ _ _
      | exact LeO.none _
      | refine LeO.ite ?_ ?_
      | refine LeO.bind ?_ (fun _ => ?_)
theorem flagstoneref2_Sum.mono : ∀ a0 a1 a2 k, LeO (flagstoneref2_Sum.f k a0 a1 a2) (flagstoneref2_Sum.f (k + 1) a0 a1 a2) := by
  intro a0 a1 a2 k
  obtain ⟨ih0, ih1⟩ := flagstoneref2_Sum.mono_l k
  unfold flagstoneref2_Sum.f
  repeat' first
      | (with_reducible exact ih0 _ _ _ _ _ _)
      | (with_reducible exact ih1 _ _ _ _ _ _ _ _)
      | (with_reducible exact LeO.refl _)
      | (with_reducible exact LeO.none _)
      | (with_reducible refine LeO.ite ?_ ?_)
      | (with_reducible refine LeO.bind ?_ (fun _ => ?_))
      | exact ih0 _ _ _ _ _ _
      | exact ih1 _ _ _ _ _ _ _ _
      | exact LeO.none _
      | refine LeO.ite ?_ ?_
      | refine LeO.bind ?_ (fun _ => ?_)
set_option maxHeartbeats 8000000 in
set_option maxRecDepth 100000 in
theorem flagstoneref2_Sum.calls (k : Nat) (a0 : Int) (a1 : Int) (A2 : Option Addr) (c2 : Nat) (l2 : List Int) (r : Int) (w : World) (hr2 : Kd.C (Kd.int .u8) w A2 l2.length l2) (hc2 : l2.length ≤ c2) (h : flagstoneref2_Sum.f k a0 a1 l2 = some r) :
    Calls Try.prog 10 #[.int .u64 a0, .int .u64 a1, .slice A2 l2.length c2] w fun e w' => e = .returned (.int .u64 r) ∧ Below w.heap.size w w' := by
  have hu42 := Try.underlying42
  have HR2 := Aside0.mk hr2
  have HC2 := Aside0.mk hc2
  clear hr2 hc2
  have HB := Aside0.mk (Below.refl w.heap.size w)
  have H : (flagstoneref2_Sum.l0 k l2 0 (Go.bits .xor .u64 a0 8317987319222330741) (Go.bits .xor .u64 a1 7237128888997146477) (Go.bits .xor .u64 a0 7816392313619706465) (Go.bits .xor .u64 a1 8387220255154660723)) = some r := h
  clear h
  have H' := Aside0.mk H
  clear H
  go_enter Try.func10, Try.ntmps10
  go_wp2_with (first | ((with_reducible refine gate_dst (N := 7) rfl ?_); (try (refine gate_guard (by rfl) ?_; dsimp only)); refine box_event ?hg (N := 7) ?hd (cs := #[.int .u64 0, .int .u64 0, .int .u64 0, .int .u64 0]) (t := 42) ?hr ?_; (case hd => rfl); (case hg => rfl); (case hr => first | (go_simp; done) | (go_simp; rfl)); intro gb124 hg w4 hbox hb; have n0_ := Aside0.mk (below_step (by repeat (first | (with_reducible first | exact HB.out | apply below_alloc | apply pw_below_drewN | apply below_drew1) | exact HB.out)) hb); have n1_ := Aside0.mk (hbox); have n2_ := Aside0.mk ((by rw [hg]; exact (below_size (by repeat (first | (with_reducible first | exact HB.out | apply below_alloc | apply pw_below_drewN | apply below_drew1) | exact HB.out))) : w.heap.size ≤ gb124)); have n3_ := Aside0.mk ((by rw [hg]; exact (below_size (by repeat (first | (with_reducible first | exact HB.out | apply below_alloc | apply pw_below_drewN | apply below_drew1) | exact HB.out))) : w.heap.size ≤ gb124)); clear HB; have HB := n0_; have BK124 := n1_; have GW124 := n2_; have GE124 := n3_; clear n0_ n1_ n2_ n3_; clear hb hbox hg; have hcz5_0 : w4.cell? ⟨gb124, 0, none⟩ = some (.int .u64 0) := (blk_cell BK124.out 0).trans rfl; have hcz5_1 : w4.cell? ⟨gb124, 1, none⟩ = some (.int .u64 0) := (blk_cell BK124.out 1).trans rfl; have hcz5_2 : w4.cell? ⟨gb124, 2, none⟩ = some (.int .u64 0) := (blk_cell BK124.out 2).trans rfl; have hcz5_3 : w4.cell? ⟨gb124, 3, none⟩ = some (.int .u64 0) := (blk_cell BK124.out 3).trans rfl; have hfz5_0 := blk_frozen BK124.out 0; have hfz5_1 := blk_frozen BK124.out 1; have hfz5_2 := blk_frozen BK124.out 2; have hfz5_3 := blk_frozen BK124.out 3))
  go_loopg [8] k (fun kq v8 w' => ∃ (x8_1 : Int) (x125000_1 : Int) (x125001_1 : Int) (x125002_1 : Int) (x125003_1 : Int), v8 = .int .i64 x8_1 ∧ Aside0 (flagstoneref2_Sum.l0 kq l2 x8_1 x125000_1 x125001_1 x125002_1 x125003_1 = some r) ∧ Aside0 (kq ≤ k) ∧ Aside0 (w'.heap[gb124]? = some (.cells #[.int .u64 x125000_1, .int .u64 x125001_1, .int .u64 x125002_1, .int .u64 x125003_1] 42 (0, 0))) ∧ Aside0 (Below w.heap.size w w'))
  case atStart => exact ⟨(0), (Go.bits .xor .u64 a0 8317987319222330741), (Go.bits .xor .u64 a1 7237128888997146477), (Go.bits .xor .u64 a0 7816392313619706465), (Go.bits .xor .u64 a1 8387220255154660723), (by first | rfl | (simp; done) | (simp [*]; done)), H', ⟨Nat.le_refl _⟩, ⟨by (with_reducible repeat (first | refine blk_drewN ?_ _ | refine blk_drew ?_ | refine blk_alloc ?_ _)); refine blk_put (cs := #[.int .u64 (Go.bits .xor .u64 a0 8317987319222330741), .int .u64 (Go.bits .xor .u64 a1 7237128888997146477), .int .u64 (Go.bits .xor .u64 a0 7816392313619706465), .int .u64 0]) ?_ 3 _ rfl; (with_reducible repeat (first | refine blk_drewN ?_ _ | refine blk_drew ?_ | refine blk_alloc ?_ _)); refine blk_put (cs := #[.int .u64 (Go.bits .xor .u64 a0 8317987319222330741), .int .u64 (Go.bits .xor .u64 a1 7237128888997146477), .int .u64 0, .int .u64 0]) ?_ 2 _ rfl; (with_reducible repeat (first | refine blk_drewN ?_ _ | refine blk_drew ?_ | refine blk_alloc ?_ _)); refine blk_put (cs := #[.int .u64 (Go.bits .xor .u64 a0 8317987319222330741), .int .u64 0, .int .u64 0, .int .u64 0]) ?_ 1 _ rfl; (with_reducible repeat (first | refine blk_drewN ?_ _ | refine blk_drew ?_ | refine blk_alloc ?_ _)); refine blk_put (cs := #[.int .u64 0, .int .u64 0, .int .u64 0, .int .u64 0]) ?_ 0 _ rfl; (with_reducible repeat (first | refine blk_drewN ?_ _ | refine blk_drew ?_ | refine blk_alloc ?_ _)); exact BK124.out⟩, ⟨by repeat (first | (with_reducible first | exact HB.out | apply below_alloc | apply pw_below_drewN | apply below_drew1 | refine below_set ?_ GE124.out) | exact HB.out)⟩⟩
  case round =>
    clear H'
    try clear c1
    try clear c2
    try clear p2
    try clear hcz5_0
    try clear hcz5_1
    try clear hcz5_2
    try clear hcz5_3
    try clear hfz5_0
    try clear hfz5_1
    try clear hfz5_2
    try clear hfz5_3
    obtain ⟨x8_1, x125000_1, x125001_1, x125002_1, x125003_1, rfl, HA, HK1, BK124, HB⟩ := hrel
    cases gk with
    | zero => exact absurd HA.out (by simp [flagstoneref2_Sum.l0])
    | succ k1 =>
      have H := HA.out
      clear HA
      simp only [flagstoneref2_Sum.l0] at H
      by_cases c6 : x8_1 ≤ (wrap64 ((l2.length : Int) / 8))
      · rw [if_pos c6] at H
        have c6b0 : decide (x8_1 ≤ (wrap64 ((l2.length : Int) / 8))) = true := decide_eq_true c6
        clear c6
        have H' := Aside0.mk H
        clear H
        go_wp2
        go_loopg [9, 10] k1 (fun kq v9 v10 w' => ∃ (x9_2 : Int) (x10_2 : Int), v9 = .int .u64 x9_2 ∧ v10 = .int .i64 x10_2 ∧ Aside0 (flagstoneref2_Sum.l1 kq l2 x8_1 x9_2 x10_2 x125000_1 x125001_1 x125002_1 x125003_1 = some r) ∧ Aside0 (kq ≤ k1) ∧ Aside0 (w'.heap[gb124]? = some (.cells #[.int .u64 x125000_1, .int .u64 x125001_1, .int .u64 x125002_1, .int .u64 x125003_1] 42 (0, 0))) ∧ Aside0 (Below w.heap.size w w'))
        case atStart => exact ⟨(0), (0), (by first | rfl | (simp; done) | (simp [*]; done)), (by first | rfl | (simp; done) | (simp [*]; done)), H', ⟨Nat.le_refl _⟩, ⟨by (with_reducible repeat (first | refine blk_drewN ?_ _ | refine blk_drew ?_ | refine blk_alloc ?_ _)); exact BK124.out⟩, ⟨by repeat (first | (with_reducible first | exact HB.out | apply below_alloc | apply pw_below_drewN | apply below_drew1 | refine below_set ?_ GE124.out) | exact HB.out)⟩⟩
        case round =>
          clear H'
          try clear c1
          try clear c2
          try clear p2
          try clear c6
          try clear c6b0
          try clear p6
          try clear hcz5_0
          try clear hcz5_1
          try clear hcz5_2
          try clear hcz5_3
          try clear hfz5_0
          try clear hfz5_1
          try clear hfz5_2
          try clear hfz5_3
          try clear p2
          obtain ⟨x9_2, x10_2, rfl, rfl, HA, HK2, BK124, HB⟩ := hrel
          cases gk with
          | zero => exact absurd HA.out (by simp [flagstoneref2_Sum.l1])
          | succ k2 =>
            have H := HA.out
            clear HA
            simp only [flagstoneref2_Sum.l1] at H
            by_cases c7 : x10_2 < 8
            · rw [if_pos c7] at H
              have c7b0 : decide (x10_2 < 8) = true := decide_eq_true c7
              clear c7
              by_cases c8 : (wrap64 ((wrap64 (8 * x8_1)) + x10_2)) < (l2.length : Int)
              · rw [if_pos c8] at H
                have c8b0 : decide ((wrap64 ((wrap64 (8 * x8_1)) + x10_2)) < (l2.length : Int)) = true := decide_eq_true c8
                clear c8
                obtain ⟨ji9, hji9⟩ : ∃ j_ : Int, (wrap64 ((wrap64 (8 * x8_1)) + x10_2)) = j_ := ⟨_, rfl⟩
                replace H : (if 0 ≤ (ji9) then (if 0 ≤ (IntKind.u64.wrap (wrap64 (8 * x10_2))) then (flagstoneref2_Sum.l1 k2 l2 x8_1 (Go.bits .or .u64 x9_2 (shl .u64 (IntKind.u64.wrap (rd l2 (ji9))) (IntKind.u64.wrap (wrap64 (8 * x10_2))))) (wrap64 (x10_2 + 1)) x125000_1 x125001_1 x125002_1 x125003_1) else (none)) else (none)) = some r := by first | (rw [hji9] at H; exact H) | (simp only [hji9] at H ⊢; exact H)
                (try rw [hji9] at c8b0)
                have hji9w : (IntKind.i64.wrap ((wrap64 (8 * x8_1)) + x10_2)) = ji9 := (i64_w _).trans hji9
                by_cases c10 : 0 ≤ (ji9)
                · rw [if_pos c10] at H
                  have c10b0 : decide (0 ≤ (ji9)) = true := decide_eq_true c10
                  clear c10
                  obtain ⟨ji11, hji11⟩ : ∃ j_ : Int, (IntKind.u64.wrap (wrap64 (8 * x10_2))) = j_ := ⟨_, rfl⟩
                  replace H : (if 0 ≤ (ji11) then (flagstoneref2_Sum.l1 k2 l2 x8_1 (Go.bits .or .u64 x9_2 (shl .u64 (IntKind.u64.wrap (rd l2 (ji9))) (ji11))) (wrap64 (x10_2 + 1)) x125000_1 x125001_1 x125002_1 x125003_1) else (none)) = some r := by first | (rw [hji11] at H; exact H) | (simp only [hji11] at H ⊢; exact H)
                  by_cases c12 : 0 ≤ (ji11)
                  · rw [if_pos c12] at H
                    have c12b0 := eq_true c12
                    have c12b1 : decide (0 ≤ (ji11)) = true := decide_eq_true c12
                    clear c12
                    obtain ⟨ji13, hji13⟩ : ∃ j_ : Int, (shl .u64 (IntKind.u64.wrap (rd l2 (ji9))) (ji11)) = j_ := ⟨_, rfl⟩
                    replace H : (flagstoneref2_Sum.l1 k2 l2 x8_1 (Go.bits .or .u64 x9_2 (ji13)) (wrap64 (x10_2 + 1)) x125000_1 x125001_1 x125002_1 x125003_1) = some r := by first | (rw [hji13] at H; exact H) | (simp only [hji13] at H ⊢; exact H)
                    have hji13_ : (IntKind.u64.wrap ((IntKind.u64.wrap (rd l2 (ji9))) * 2 ^ min (ji11).toNat 64)) = ji13 := hji13
                    have hji13z : (ji11) ≤ 64 → (IntKind.u64.wrap ((IntKind.u64.wrap (rd l2 (ji9))) * 2 ^ (ji11).toNat)) = ji13 := shl_small hji13
                    have H' := Aside0.mk H
                    clear H
                    have p129 : 0 ≤ ((ji9) : Int) := of_decide_eq_true (by first | (with_reducible assumption) | assumption)
                    have q129 : (ji9) < (l2.length : Int) := of_decide_eq_true (by first | (with_reducible assumption) | assumption)
                    obtain ⟨ad129, e129, hx129_0⟩ := Kd.at_int HR2.out (ji9) p129 q129
                    cases e129
                    replace hx129_0 := (HB.out.cell (World.block_lt_of_cell? w _ hx129_0)).trans hx129_0
                    replace p129 := eq_true p129
                    replace q129 := eq_true q129
                    go_wp2
                    go_roundg k2
                    case measure => have := HK1.out; have := HK2.out; omega
                    case rel => exact ⟨(Go.bits .or .u64 x9_2 (ji13)), (wrap64 (x10_2 + 1)), (by first | rfl | (simp; done) | (simp only [← hji13] <;> (first | rfl | simp)) | (simp [*]; done)), (by first | rfl | (simp; done) | (simp [*]; done)), H', ⟨by have := HK1.out; have := HK2.out; omega⟩, ⟨by (with_reducible repeat (first | refine blk_drewN ?_ _ | refine blk_drew ?_ | refine blk_alloc ?_ _)); exact BK124.out⟩, ⟨by repeat (first | (with_reducible first | exact HB.out | apply below_alloc | apply pw_below_drewN | apply below_drew1 | refine below_set ?_ GE124.out) | exact HB.out)⟩⟩
                  · rw [if_neg c12] at H
                    exact absurd H (by simp)
                · rw [if_neg c10] at H
                  exact absurd H (by simp)
              · rw [if_neg c8] at H
                have c8b0 : decide ((wrap64 ((wrap64 (8 * x8_1)) + x10_2)) < (l2.length : Int)) = false := decide_eq_false c8
                clear c8
                by_cases c14 : x8_1 = (wrap64 ((l2.length : Int) / 8))
                · rw [if_pos c14] at H
                  have c14b0 : (x8_1 == (wrap64 ((l2.length : Int) / 8))) = true := beq_iff_eq.mpr c14
                  have c14b1 : (x8_1 != (wrap64 ((l2.length : Int) / 8))) = false := bne_eq_false_iff_eq.mpr c14
                  clear c14
                  replace H := Option.bind_eq_some_iff.mp H
                  obtain ⟨⟨t130, t131, t132, t133⟩, A150, H⟩ := H
                  replace H : (flagstoneref2_Sum.l0 k2 l2 (wrap64 (x8_1 + 1)) (Go.bits .xor .u64 t130 (Go.bits .or .u64 x9_2 (((l2.length : Int) % 256) * 72057594037927936))) t131 t132 t133) = some r := H
                  have A15 := Aside0.mk A150
                  clear A150
                  have H' := Aside0.mk H
                  clear H
                  have hcz16_0 : wr.cell? ⟨gb124, 0, none⟩ = some (.int .u64 x125000_1) := (blk_cell BK124.out 0).trans rfl
                  have hcz16_1 : wr.cell? ⟨gb124, 1, none⟩ = some (.int .u64 x125001_1) := (blk_cell BK124.out 1).trans rfl
                  have hcz16_2 : wr.cell? ⟨gb124, 2, none⟩ = some (.int .u64 x125002_1) := (blk_cell BK124.out 2).trans rfl
                  have hcz16_3 : wr.cell? ⟨gb124, 3, none⟩ = some (.int .u64 x125003_1) := (blk_cell BK124.out 3).trans rfl
                  have hfz16_0 := blk_frozen BK124.out 0
                  have hfz16_1 := blk_frozen BK124.out 1
                  have hfz16_2 := blk_frozen BK124.out 2
                  have hfz16_3 := blk_frozen BK124.out 3
                  go_wp2_with (first | ((with_reducible refine gate_callee (f := 20) rfl ?_); refine goesL_ (some 72) rfl rfl Try.func20 (by kernel_rfl) rfl #[.agg #[.int .u64 x125000_1, .int .u64 x125001_1, .int .u64 x125002_1, .int .u64 (Go.bits .xor .u64 x125003_1 (Go.bits .or .u64 x9_2 (((l2.length : Int) % 256) * 72057594037927936)))], .int .i64 2] rfl (by (try simp only [List.map_toArray, List.map_cons, List.map_nil]); first | done | rfl | (simp only [List.length_drop, List.length_take]; rfl)) ?_; (with_reducible refine (flagstoneref2_state_rounds.calls x125000_1 x125001_1 x125002_1 (Go.bits .xor .u64 x125003_1 (Go.bits .or .u64 x9_2 (((l2.length : Int) % 256) * 72057594037927936))) 2 t130 t131 t132 t133 _ A15.out).mono ?_); rintro e w17 ⟨rfl, hb⟩; refine ⟨_, rfl, ?_⟩; have n0_ := Aside0.mk (blk_below (g := gb124) (o := .cells #[.int .u64 x125000_1, .int .u64 x125001_1, .int .u64 x125002_1, .int .u64 (Go.bits .xor .u64 x125003_1 (Go.bits .or .u64 x9_2 (((l2.length : Int) % 256) * 72057594037927936)))] 42 (0, 0)) (by (with_reducible repeat (first | refine blk_drewN ?_ _ | refine blk_drew ?_ | refine blk_alloc ?_ _)); refine blk_put (cs := #[.int .u64 x125000_1, .int .u64 x125001_1, .int .u64 x125002_1, .int .u64 x125003_1]) ?_ 3 _ rfl; (with_reducible repeat (first | refine blk_drewN ?_ _ | refine blk_drew ?_ | refine blk_alloc ?_ _)); exact BK124.out) hb); have n1_ := Aside0.mk (below_step (by repeat (first | (with_reducible first | exact HB.out | apply below_alloc | apply pw_below_drewN | apply below_drew1 | refine below_set ?_ GE124.out) | exact HB.out)) hb); clear BK124; clear HB; have BK124 := n0_; have HB := n1_; clear n0_ n1_; (try clear hb); (try clear hb2); (try clear hk); (try clear hi); have hcz18_0 : w17.cell? ⟨gb124, 0, none⟩ = some (.int .u64 x125000_1) := (blk_cell BK124.out 0).trans rfl; have hcz18_1 : w17.cell? ⟨gb124, 1, none⟩ = some (.int .u64 x125001_1) := (blk_cell BK124.out 1).trans rfl; have hcz18_2 : w17.cell? ⟨gb124, 2, none⟩ = some (.int .u64 x125002_1) := (blk_cell BK124.out 2).trans rfl; have hcz18_3 : w17.cell? ⟨gb124, 3, none⟩ = some (.int .u64 (Go.bits .xor .u64 x125003_1 (Go.bits .or .u64 x9_2 (((l2.length : Int) % 256) * 72057594037927936)))) := (blk_cell BK124.out 3).trans rfl; have hfz18_0 := blk_frozen BK124.out 0; have hfz18_1 := blk_frozen BK124.out 1; have hfz18_2 := blk_frozen BK124.out 2; have hfz18_3 := blk_frozen BK124.out 3))
                  go_roundg k2
                  case measure => have := HK1.out; have := HK2.out; omega
                  case rel => exact ⟨(wrap64 (x8_1 + 1)), (Go.bits .xor .u64 t130 (Go.bits .or .u64 x9_2 (((l2.length : Int) % 256) * 72057594037927936))), (t131), (t132), (t133), (by first | rfl | (simp; done) | (simp [*]; done)), H', ⟨by have := HK1.out; have := HK2.out; omega⟩, ⟨by (with_reducible repeat (first | refine blk_drewN ?_ _ | refine blk_drew ?_ | refine blk_alloc ?_ _)); refine blk_put (cs := #[.int .u64 t130, .int .u64 t131, .int .u64 t132, .int .u64 t133]) ?_ 0 _ rfl; (with_reducible repeat (first | refine blk_drewN ?_ _ | refine blk_drew ?_ | refine blk_alloc ?_ _)); refine blk_put (cs := #[.int .u64 t130, .int .u64 t131, .int .u64 t132, .int .u64 (Go.bits .xor .u64 x125003_1 (Go.bits .or .u64 x9_2 (((l2.length : Int) % 256) * 72057594037927936)))]) ?_ 3 _ rfl; (with_reducible repeat (first | refine blk_drewN ?_ _ | refine blk_drew ?_ | refine blk_alloc ?_ _)); refine blk_put (cs := #[.int .u64 t130, .int .u64 t131, .int .u64 x125002_1, .int .u64 (Go.bits .xor .u64 x125003_1 (Go.bits .or .u64 x9_2 (((l2.length : Int) % 256) * 72057594037927936)))]) ?_ 2 _ rfl; (with_reducible repeat (first | refine blk_drewN ?_ _ | refine blk_drew ?_ | refine blk_alloc ?_ _)); refine blk_put (cs := #[.int .u64 t130, .int .u64 x125001_1, .int .u64 x125002_1, .int .u64 (Go.bits .xor .u64 x125003_1 (Go.bits .or .u64 x9_2 (((l2.length : Int) % 256) * 72057594037927936)))]) ?_ 1 _ rfl; (with_reducible repeat (first | refine blk_drewN ?_ _ | refine blk_drew ?_ | refine blk_alloc ?_ _)); refine blk_put (cs := #[.int .u64 x125000_1, .int .u64 x125001_1, .int .u64 x125002_1, .int .u64 (Go.bits .xor .u64 x125003_1 (Go.bits .or .u64 x9_2 (((l2.length : Int) % 256) * 72057594037927936)))]) ?_ 0 _ rfl; (with_reducible repeat (first | refine blk_drewN ?_ _ | refine blk_drew ?_ | refine blk_alloc ?_ _)); exact BK124.out⟩, ⟨by repeat (first | (with_reducible first | exact HB.out | apply below_alloc | apply pw_below_drewN | apply below_drew1 | refine below_set ?_ GE124.out) | exact HB.out)⟩⟩
                · rw [if_neg c14] at H
                  have c14b0 : (x8_1 == (wrap64 ((l2.length : Int) / 8))) = false := beq_eq_false_iff_ne.mpr c14
                  have c14b1 : (x8_1 != (wrap64 ((l2.length : Int) / 8))) = true := bne_iff_ne.mpr c14
                  replace H := Option.bind_eq_some_iff.mp H
                  obtain ⟨⟨t134, t135, t136, t137⟩, A190, H⟩ := H
                  replace H : (flagstoneref2_Sum.l0 k2 l2 (wrap64 (x8_1 + 1)) (Go.bits .xor .u64 t134 x9_2) t135 t136 t137) = some r := H
                  have A19 := Aside0.mk A190
                  clear A190
                  have H' := Aside0.mk H
                  clear H
                  have hcz20_0 : wr.cell? ⟨gb124, 0, none⟩ = some (.int .u64 x125000_1) := (blk_cell BK124.out 0).trans rfl
                  have hcz20_1 : wr.cell? ⟨gb124, 1, none⟩ = some (.int .u64 x125001_1) := (blk_cell BK124.out 1).trans rfl
                  have hcz20_2 : wr.cell? ⟨gb124, 2, none⟩ = some (.int .u64 x125002_1) := (blk_cell BK124.out 2).trans rfl
                  have hcz20_3 : wr.cell? ⟨gb124, 3, none⟩ = some (.int .u64 x125003_1) := (blk_cell BK124.out 3).trans rfl
                  have hfz20_0 := blk_frozen BK124.out 0
                  have hfz20_1 := blk_frozen BK124.out 1
                  have hfz20_2 := blk_frozen BK124.out 2
                  have hfz20_3 := blk_frozen BK124.out 3
                  go_wp2_with (first | ((with_reducible refine gate_callee (f := 20) rfl ?_); refine goesL_ (some 72) rfl rfl Try.func20 (by kernel_rfl) rfl #[.agg #[.int .u64 x125000_1, .int .u64 x125001_1, .int .u64 x125002_1, .int .u64 (Go.bits .xor .u64 x125003_1 x9_2)], .int .i64 2] rfl (by (try simp only [List.map_toArray, List.map_cons, List.map_nil]); first | done | rfl | (simp only [List.length_drop, List.length_take]; rfl)) ?_; (with_reducible refine (flagstoneref2_state_rounds.calls x125000_1 x125001_1 x125002_1 (Go.bits .xor .u64 x125003_1 x9_2) 2 t134 t135 t136 t137 _ A19.out).mono ?_); rintro e w21 ⟨rfl, hb⟩; refine ⟨_, rfl, ?_⟩; have n0_ := Aside0.mk (blk_below (g := gb124) (o := .cells #[.int .u64 x125000_1, .int .u64 x125001_1, .int .u64 x125002_1, .int .u64 (Go.bits .xor .u64 x125003_1 x9_2)] 42 (0, 0)) (by (with_reducible repeat (first | refine blk_drewN ?_ _ | refine blk_drew ?_ | refine blk_alloc ?_ _)); refine blk_put (cs := #[.int .u64 x125000_1, .int .u64 x125001_1, .int .u64 x125002_1, .int .u64 x125003_1]) ?_ 3 _ rfl; (with_reducible repeat (first | refine blk_drewN ?_ _ | refine blk_drew ?_ | refine blk_alloc ?_ _)); exact BK124.out) hb); have n1_ := Aside0.mk (below_step (by repeat (first | (with_reducible first | exact HB.out | apply below_alloc | apply pw_below_drewN | apply below_drew1 | refine below_set ?_ GE124.out) | exact HB.out)) hb); clear BK124; clear HB; have BK124 := n0_; have HB := n1_; clear n0_ n1_; (try clear hb); (try clear hb2); (try clear hk); (try clear hi); have hcz22_0 : w21.cell? ⟨gb124, 0, none⟩ = some (.int .u64 x125000_1) := (blk_cell BK124.out 0).trans rfl; have hcz22_1 : w21.cell? ⟨gb124, 1, none⟩ = some (.int .u64 x125001_1) := (blk_cell BK124.out 1).trans rfl; have hcz22_2 : w21.cell? ⟨gb124, 2, none⟩ = some (.int .u64 x125002_1) := (blk_cell BK124.out 2).trans rfl; have hcz22_3 : w21.cell? ⟨gb124, 3, none⟩ = some (.int .u64 (Go.bits .xor .u64 x125003_1 x9_2)) := (blk_cell BK124.out 3).trans rfl; have hfz22_0 := blk_frozen BK124.out 0; have hfz22_1 := blk_frozen BK124.out 1; have hfz22_2 := blk_frozen BK124.out 2; have hfz22_3 := blk_frozen BK124.out 3))
                  go_roundg k2
                  case measure => have := HK1.out; have := HK2.out; omega
                  case rel => exact ⟨(wrap64 (x8_1 + 1)), (Go.bits .xor .u64 t134 x9_2), (t135), (t136), (t137), (by first | rfl | (simp; done) | (simp [*]; done)), H', ⟨by have := HK1.out; have := HK2.out; omega⟩, ⟨by (with_reducible repeat (first | refine blk_drewN ?_ _ | refine blk_drew ?_ | refine blk_alloc ?_ _)); refine blk_put (cs := #[.int .u64 t134, .int .u64 t135, .int .u64 t136, .int .u64 t137]) ?_ 0 _ rfl; (with_reducible repeat (first | refine blk_drewN ?_ _ | refine blk_drew ?_ | refine blk_alloc ?_ _)); refine blk_put (cs := #[.int .u64 t134, .int .u64 t135, .int .u64 t136, .int .u64 (Go.bits .xor .u64 x125003_1 x9_2)]) ?_ 3 _ rfl; (with_reducible repeat (first | refine blk_drewN ?_ _ | refine blk_drew ?_ | refine blk_alloc ?_ _)); refine blk_put (cs := #[.int .u64 t134, .int .u64 t135, .int .u64 x125002_1, .int .u64 (Go.bits .xor .u64 x125003_1 x9_2)]) ?_ 2 _ rfl; (with_reducible repeat (first | refine blk_drewN ?_ _ | refine blk_drew ?_ | refine blk_alloc ?_ _)); refine blk_put (cs := #[.int .u64 t134, .int .u64 x125001_1, .int .u64 x125002_1, .int .u64 (Go.bits .xor .u64 x125003_1 x9_2)]) ?_ 1 _ rfl; (with_reducible repeat (first | refine blk_drewN ?_ _ | refine blk_drew ?_ | refine blk_alloc ?_ _)); refine blk_put (cs := #[.int .u64 x125000_1, .int .u64 x125001_1, .int .u64 x125002_1, .int .u64 (Go.bits .xor .u64 x125003_1 x9_2)]) ?_ 0 _ rfl; (with_reducible repeat (first | refine blk_drewN ?_ _ | refine blk_drew ?_ | refine blk_alloc ?_ _)); exact BK124.out⟩, ⟨by repeat (first | (with_reducible first | exact HB.out | apply below_alloc | apply pw_below_drewN | apply below_drew1 | refine below_set ?_ GE124.out) | exact HB.out)⟩⟩
            · rw [if_neg c7] at H
              have c7b0 : decide (x10_2 < 8) = false := decide_eq_false c7
              clear c7
              by_cases c23 : x8_1 = (wrap64 ((l2.length : Int) / 8))
              · rw [if_pos c23] at H
                have c23b0 : (x8_1 == (wrap64 ((l2.length : Int) / 8))) = true := beq_iff_eq.mpr c23
                have c23b1 : (x8_1 != (wrap64 ((l2.length : Int) / 8))) = false := bne_eq_false_iff_eq.mpr c23
                clear c23
                replace H := Option.bind_eq_some_iff.mp H
                obtain ⟨⟨t138, t139, t140, t141⟩, A240, H⟩ := H
                replace H : (flagstoneref2_Sum.l0 k2 l2 (wrap64 (x8_1 + 1)) (Go.bits .xor .u64 t138 (Go.bits .or .u64 x9_2 (((l2.length : Int) % 256) * 72057594037927936))) t139 t140 t141) = some r := H
                have A24 := Aside0.mk A240
                clear A240
                have H' := Aside0.mk H
                clear H
                have hcz25_0 : wr.cell? ⟨gb124, 0, none⟩ = some (.int .u64 x125000_1) := (blk_cell BK124.out 0).trans rfl
                have hcz25_1 : wr.cell? ⟨gb124, 1, none⟩ = some (.int .u64 x125001_1) := (blk_cell BK124.out 1).trans rfl
                have hcz25_2 : wr.cell? ⟨gb124, 2, none⟩ = some (.int .u64 x125002_1) := (blk_cell BK124.out 2).trans rfl
                have hcz25_3 : wr.cell? ⟨gb124, 3, none⟩ = some (.int .u64 x125003_1) := (blk_cell BK124.out 3).trans rfl
                have hfz25_0 := blk_frozen BK124.out 0
                have hfz25_1 := blk_frozen BK124.out 1
                have hfz25_2 := blk_frozen BK124.out 2
                have hfz25_3 := blk_frozen BK124.out 3
                go_wp2_with (first | ((with_reducible refine gate_callee (f := 20) rfl ?_); refine goesL_ (some 72) rfl rfl Try.func20 (by kernel_rfl) rfl #[.agg #[.int .u64 x125000_1, .int .u64 x125001_1, .int .u64 x125002_1, .int .u64 (Go.bits .xor .u64 x125003_1 (Go.bits .or .u64 x9_2 (((l2.length : Int) % 256) * 72057594037927936)))], .int .i64 2] rfl (by (try simp only [List.map_toArray, List.map_cons, List.map_nil]); first | done | rfl | (simp only [List.length_drop, List.length_take]; rfl)) ?_; (with_reducible refine (flagstoneref2_state_rounds.calls x125000_1 x125001_1 x125002_1 (Go.bits .xor .u64 x125003_1 (Go.bits .or .u64 x9_2 (((l2.length : Int) % 256) * 72057594037927936))) 2 t138 t139 t140 t141 _ A24.out).mono ?_); rintro e w26 ⟨rfl, hb⟩; refine ⟨_, rfl, ?_⟩; have n0_ := Aside0.mk (blk_below (g := gb124) (o := .cells #[.int .u64 x125000_1, .int .u64 x125001_1, .int .u64 x125002_1, .int .u64 (Go.bits .xor .u64 x125003_1 (Go.bits .or .u64 x9_2 (((l2.length : Int) % 256) * 72057594037927936)))] 42 (0, 0)) (by (with_reducible repeat (first | refine blk_drewN ?_ _ | refine blk_drew ?_ | refine blk_alloc ?_ _)); refine blk_put (cs := #[.int .u64 x125000_1, .int .u64 x125001_1, .int .u64 x125002_1, .int .u64 x125003_1]) ?_ 3 _ rfl; (with_reducible repeat (first | refine blk_drewN ?_ _ | refine blk_drew ?_ | refine blk_alloc ?_ _)); exact BK124.out) hb); have n1_ := Aside0.mk (below_step (by repeat (first | (with_reducible first | exact HB.out | apply below_alloc | apply pw_below_drewN | apply below_drew1 | refine below_set ?_ GE124.out) | exact HB.out)) hb); clear BK124; clear HB; have BK124 := n0_; have HB := n1_; clear n0_ n1_; (try clear hb); (try clear hb2); (try clear hk); (try clear hi); have hcz27_0 : w26.cell? ⟨gb124, 0, none⟩ = some (.int .u64 x125000_1) := (blk_cell BK124.out 0).trans rfl; have hcz27_1 : w26.cell? ⟨gb124, 1, none⟩ = some (.int .u64 x125001_1) := (blk_cell BK124.out 1).trans rfl; have hcz27_2 : w26.cell? ⟨gb124, 2, none⟩ = some (.int .u64 x125002_1) := (blk_cell BK124.out 2).trans rfl; have hcz27_3 : w26.cell? ⟨gb124, 3, none⟩ = some (.int .u64 (Go.bits .xor .u64 x125003_1 (Go.bits .or .u64 x9_2 (((l2.length : Int) % 256) * 72057594037927936)))) := (blk_cell BK124.out 3).trans rfl; have hfz27_0 := blk_frozen BK124.out 0; have hfz27_1 := blk_frozen BK124.out 1; have hfz27_2 := blk_frozen BK124.out 2; have hfz27_3 := blk_frozen BK124.out 3))
                go_roundg k2
                case measure => have := HK1.out; have := HK2.out; omega
                case rel => exact ⟨(wrap64 (x8_1 + 1)), (Go.bits .xor .u64 t138 (Go.bits .or .u64 x9_2 (((l2.length : Int) % 256) * 72057594037927936))), (t139), (t140), (t141), (by first | rfl | (simp; done) | (simp [*]; done)), H', ⟨by have := HK1.out; have := HK2.out; omega⟩, ⟨by (with_reducible repeat (first | refine blk_drewN ?_ _ | refine blk_drew ?_ | refine blk_alloc ?_ _)); refine blk_put (cs := #[.int .u64 t138, .int .u64 t139, .int .u64 t140, .int .u64 t141]) ?_ 0 _ rfl; (with_reducible repeat (first | refine blk_drewN ?_ _ | refine blk_drew ?_ | refine blk_alloc ?_ _)); refine blk_put (cs := #[.int .u64 t138, .int .u64 t139, .int .u64 t140, .int .u64 (Go.bits .xor .u64 x125003_1 (Go.bits .or .u64 x9_2 (((l2.length : Int) % 256) * 72057594037927936)))]) ?_ 3 _ rfl; (with_reducible repeat (first | refine blk_drewN ?_ _ | refine blk_drew ?_ | refine blk_alloc ?_ _)); refine blk_put (cs := #[.int .u64 t138, .int .u64 t139, .int .u64 x125002_1, .int .u64 (Go.bits .xor .u64 x125003_1 (Go.bits .or .u64 x9_2 (((l2.length : Int) % 256) * 72057594037927936)))]) ?_ 2 _ rfl; (with_reducible repeat (first | refine blk_drewN ?_ _ | refine blk_drew ?_ | refine blk_alloc ?_ _)); refine blk_put (cs := #[.int .u64 t138, .int .u64 x125001_1, .int .u64 x125002_1, .int .u64 (Go.bits .xor .u64 x125003_1 (Go.bits .or .u64 x9_2 (((l2.length : Int) % 256) * 72057594037927936)))]) ?_ 1 _ rfl; (with_reducible repeat (first | refine blk_drewN ?_ _ | refine blk_drew ?_ | refine blk_alloc ?_ _)); refine blk_put (cs := #[.int .u64 x125000_1, .int .u64 x125001_1, .int .u64 x125002_1, .int .u64 (Go.bits .xor .u64 x125003_1 (Go.bits .or .u64 x9_2 (((l2.length : Int) % 256) * 72057594037927936)))]) ?_ 0 _ rfl; (with_reducible repeat (first | refine blk_drewN ?_ _ | refine blk_drew ?_ | refine blk_alloc ?_ _)); exact BK124.out⟩, ⟨by repeat (first | (with_reducible first | exact HB.out | apply below_alloc | apply pw_below_drewN | apply below_drew1 | refine below_set ?_ GE124.out) | exact HB.out)⟩⟩
              · rw [if_neg c23] at H
                have c23b0 : (x8_1 == (wrap64 ((l2.length : Int) / 8))) = false := beq_eq_false_iff_ne.mpr c23
                have c23b1 : (x8_1 != (wrap64 ((l2.length : Int) / 8))) = true := bne_iff_ne.mpr c23
                replace H := Option.bind_eq_some_iff.mp H
                obtain ⟨⟨t142, t143, t144, t145⟩, A280, H⟩ := H
                replace H : (flagstoneref2_Sum.l0 k2 l2 (wrap64 (x8_1 + 1)) (Go.bits .xor .u64 t142 x9_2) t143 t144 t145) = some r := H
                have A28 := Aside0.mk A280
                clear A280
                have H' := Aside0.mk H
                clear H
                have hcz29_0 : wr.cell? ⟨gb124, 0, none⟩ = some (.int .u64 x125000_1) := (blk_cell BK124.out 0).trans rfl
                have hcz29_1 : wr.cell? ⟨gb124, 1, none⟩ = some (.int .u64 x125001_1) := (blk_cell BK124.out 1).trans rfl
                have hcz29_2 : wr.cell? ⟨gb124, 2, none⟩ = some (.int .u64 x125002_1) := (blk_cell BK124.out 2).trans rfl
                have hcz29_3 : wr.cell? ⟨gb124, 3, none⟩ = some (.int .u64 x125003_1) := (blk_cell BK124.out 3).trans rfl
                have hfz29_0 := blk_frozen BK124.out 0
                have hfz29_1 := blk_frozen BK124.out 1
                have hfz29_2 := blk_frozen BK124.out 2
                have hfz29_3 := blk_frozen BK124.out 3
                go_wp2_with (first | ((with_reducible refine gate_callee (f := 20) rfl ?_); refine goesL_ (some 72) rfl rfl Try.func20 (by kernel_rfl) rfl #[.agg #[.int .u64 x125000_1, .int .u64 x125001_1, .int .u64 x125002_1, .int .u64 (Go.bits .xor .u64 x125003_1 x9_2)], .int .i64 2] rfl (by (try simp only [List.map_toArray, List.map_cons, List.map_nil]); first | done | rfl | (simp only [List.length_drop, List.length_take]; rfl)) ?_; (with_reducible refine (flagstoneref2_state_rounds.calls x125000_1 x125001_1 x125002_1 (Go.bits .xor .u64 x125003_1 x9_2) 2 t142 t143 t144 t145 _ A28.out).mono ?_); rintro e w30 ⟨rfl, hb⟩; refine ⟨_, rfl, ?_⟩; have n0_ := Aside0.mk (blk_below (g := gb124) (o := .cells #[.int .u64 x125000_1, .int .u64 x125001_1, .int .u64 x125002_1, .int .u64 (Go.bits .xor .u64 x125003_1 x9_2)] 42 (0, 0)) (by (with_reducible repeat (first | refine blk_drewN ?_ _ | refine blk_drew ?_ | refine blk_alloc ?_ _)); refine blk_put (cs := #[.int .u64 x125000_1, .int .u64 x125001_1, .int .u64 x125002_1, .int .u64 x125003_1]) ?_ 3 _ rfl; (with_reducible repeat (first | refine blk_drewN ?_ _ | refine blk_drew ?_ | refine blk_alloc ?_ _)); exact BK124.out) hb); have n1_ := Aside0.mk (below_step (by repeat (first | (with_reducible first | exact HB.out | apply below_alloc | apply pw_below_drewN | apply below_drew1 | refine below_set ?_ GE124.out) | exact HB.out)) hb); clear BK124; clear HB; have BK124 := n0_; have HB := n1_; clear n0_ n1_; (try clear hb); (try clear hb2); (try clear hk); (try clear hi); have hcz31_0 : w30.cell? ⟨gb124, 0, none⟩ = some (.int .u64 x125000_1) := (blk_cell BK124.out 0).trans rfl; have hcz31_1 : w30.cell? ⟨gb124, 1, none⟩ = some (.int .u64 x125001_1) := (blk_cell BK124.out 1).trans rfl; have hcz31_2 : w30.cell? ⟨gb124, 2, none⟩ = some (.int .u64 x125002_1) := (blk_cell BK124.out 2).trans rfl; have hcz31_3 : w30.cell? ⟨gb124, 3, none⟩ = some (.int .u64 (Go.bits .xor .u64 x125003_1 x9_2)) := (blk_cell BK124.out 3).trans rfl; have hfz31_0 := blk_frozen BK124.out 0; have hfz31_1 := blk_frozen BK124.out 1; have hfz31_2 := blk_frozen BK124.out 2; have hfz31_3 := blk_frozen BK124.out 3))
                go_roundg k2
                case measure => have := HK1.out; have := HK2.out; omega
                case rel => exact ⟨(wrap64 (x8_1 + 1)), (Go.bits .xor .u64 t142 x9_2), (t143), (t144), (t145), (by first | rfl | (simp; done) | (simp [*]; done)), H', ⟨by have := HK1.out; have := HK2.out; omega⟩, ⟨by (with_reducible repeat (first | refine blk_drewN ?_ _ | refine blk_drew ?_ | refine blk_alloc ?_ _)); refine blk_put (cs := #[.int .u64 t142, .int .u64 t143, .int .u64 t144, .int .u64 t145]) ?_ 0 _ rfl; (with_reducible repeat (first | refine blk_drewN ?_ _ | refine blk_drew ?_ | refine blk_alloc ?_ _)); refine blk_put (cs := #[.int .u64 t142, .int .u64 t143, .int .u64 t144, .int .u64 (Go.bits .xor .u64 x125003_1 x9_2)]) ?_ 3 _ rfl; (with_reducible repeat (first | refine blk_drewN ?_ _ | refine blk_drew ?_ | refine blk_alloc ?_ _)); refine blk_put (cs := #[.int .u64 t142, .int .u64 t143, .int .u64 x125002_1, .int .u64 (Go.bits .xor .u64 x125003_1 x9_2)]) ?_ 2 _ rfl; (with_reducible repeat (first | refine blk_drewN ?_ _ | refine blk_drew ?_ | refine blk_alloc ?_ _)); refine blk_put (cs := #[.int .u64 t142, .int .u64 x125001_1, .int .u64 x125002_1, .int .u64 (Go.bits .xor .u64 x125003_1 x9_2)]) ?_ 1 _ rfl; (with_reducible repeat (first | refine blk_drewN ?_ _ | refine blk_drew ?_ | refine blk_alloc ?_ _)); refine blk_put (cs := #[.int .u64 x125000_1, .int .u64 x125001_1, .int .u64 x125002_1, .int .u64 (Go.bits .xor .u64 x125003_1 x9_2)]) ?_ 0 _ rfl; (with_reducible repeat (first | refine blk_drewN ?_ _ | refine blk_drew ?_ | refine blk_alloc ?_ _)); exact BK124.out⟩, ⟨by repeat (first | (with_reducible first | exact HB.out | apply below_alloc | apply pw_below_drewN | apply below_drew1 | refine below_set ?_ GE124.out) | exact HB.out)⟩⟩
      · rw [if_neg c6] at H
        have c6b0 : decide (x8_1 ≤ (wrap64 ((l2.length : Int) / 8))) = false := decide_eq_false c6
        clear c6
        replace H := Option.bind_eq_some_iff.mp H
        obtain ⟨⟨t125, t126, t127, t128⟩, A320, H⟩ := H
        replace H : (some (Go.bits .xor .u64 (Go.bits .xor .u64 (Go.bits .xor .u64 t125 t126) t127) t128)) = some r := H
        have A32 := Aside0.mk A320
        clear A320
        obtain rfl := Option.some.inj H
        have hcz33_0 : wr.cell? ⟨gb124, 0, none⟩ = some (.int .u64 x125000_1) := (blk_cell BK124.out 0).trans rfl
        have hcz33_1 : wr.cell? ⟨gb124, 1, none⟩ = some (.int .u64 x125001_1) := (blk_cell BK124.out 1).trans rfl
        have hcz33_2 : wr.cell? ⟨gb124, 2, none⟩ = some (.int .u64 x125002_1) := (blk_cell BK124.out 2).trans rfl
        have hcz33_3 : wr.cell? ⟨gb124, 3, none⟩ = some (.int .u64 x125003_1) := (blk_cell BK124.out 3).trans rfl
        have hfz33_0 := blk_frozen BK124.out 0
        have hfz33_1 := blk_frozen BK124.out 1
        have hfz33_2 := blk_frozen BK124.out 2
        have hfz33_3 := blk_frozen BK124.out 3
        go_wp2_with (first | ((with_reducible refine gate_callee (f := 20) rfl ?_); refine goesL_ (some 83) rfl rfl Try.func20 (by kernel_rfl) rfl #[.agg #[.int .u64 x125000_1, .int .u64 x125001_1, .int .u64 (Go.bits .xor .u64 x125002_1 255), .int .u64 x125003_1], .int .i64 4] rfl (by (try simp only [List.map_toArray, List.map_cons, List.map_nil]); first | done | rfl | (simp only [List.length_drop, List.length_take]; rfl)) ?_; (with_reducible refine (flagstoneref2_state_rounds.calls x125000_1 x125001_1 (Go.bits .xor .u64 x125002_1 255) x125003_1 4 t125 t126 t127 t128 _ A32.out).mono ?_); rintro e w34 ⟨rfl, hb⟩; refine ⟨_, rfl, ?_⟩; have n0_ := Aside0.mk (blk_below (g := gb124) (o := .cells #[.int .u64 x125000_1, .int .u64 x125001_1, .int .u64 (Go.bits .xor .u64 x125002_1 255), .int .u64 x125003_1] 42 (0, 0)) (by (with_reducible repeat (first | refine blk_drewN ?_ _ | refine blk_drew ?_ | refine blk_alloc ?_ _)); refine blk_put (cs := #[.int .u64 x125000_1, .int .u64 x125001_1, .int .u64 x125002_1, .int .u64 x125003_1]) ?_ 2 _ rfl; (with_reducible repeat (first | refine blk_drewN ?_ _ | refine blk_drew ?_ | refine blk_alloc ?_ _)); exact BK124.out) hb); have n1_ := Aside0.mk (below_step (by repeat (first | (with_reducible first | exact HB.out | apply below_alloc | apply pw_below_drewN | apply below_drew1 | refine below_set ?_ GE124.out) | exact HB.out)) hb); clear BK124; clear HB; have BK124 := n0_; have HB := n1_; clear n0_ n1_; (try clear hb); (try clear hb2); (try clear hk); (try clear hi); have hcz35_0 : w34.cell? ⟨gb124, 0, none⟩ = some (.int .u64 x125000_1) := (blk_cell BK124.out 0).trans rfl; have hcz35_1 : w34.cell? ⟨gb124, 1, none⟩ = some (.int .u64 x125001_1) := (blk_cell BK124.out 1).trans rfl; have hcz35_2 : w34.cell? ⟨gb124, 2, none⟩ = some (.int .u64 (Go.bits .xor .u64 x125002_1 255)) := (blk_cell BK124.out 2).trans rfl; have hcz35_3 : w34.cell? ⟨gb124, 3, none⟩ = some (.int .u64 x125003_1) := (blk_cell BK124.out 3).trans rfl; have hfz35_0 := blk_frozen BK124.out 0; have hfz35_1 := blk_frozen BK124.out 1; have hfz35_2 := blk_frozen BK124.out 2; have hfz35_3 := blk_frozen BK124.out 3))
        go_ret
        exact ⟨by first | rfl | (simp [errW_none, errW_some] <;> rfl) | (simp [*, errW_none, errW_some] <;> rfl), by repeat (first | (with_reducible first | exact HB.out | apply below_alloc | apply pw_below_drewN | apply below_drew1 | refine below_set ?_ GE124.out) | exact HB.out)⟩

end Go.Proofs.Ytedpmohnnagamaa.Print
