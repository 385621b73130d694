/- The contracts of digest's word and the reference's rounds, for every state. -/
import Derived.Test.YtedpmohnnagamaaSip
import Derived.StillTailTactics
import Derived.RegionTactic
namespace Go.Proofs.Ytedpmohnnagamaa.Print
open Go.RowKit Go.Proofs.YtedpmohnnagamaaW.PrintWords Go.Proofs.YtedpmohnnagamaaW.PrintLast Go.Proofs.YtedpmohnnagamaaW.PrintMore
set_option linter.unusedVariables false
set_option linter.unusedSimpArgs false

set_option maxHeartbeats 4000000 in
set_option maxRecDepth 100000 in
theorem word_calls (g : Nat) (s : Int × Int × Int × Int) (m : Int) (w0 w : World) (hb : w.heap[g]? = some (.cells (cellsOf s) 37 (0,0))) (hg : w0.heap.size ≤ g) (hB0 : Below w0.heap.size w0 w) :
    Calls Try.prog 18 #[.pointer (some ⟨g, 0, none⟩), .int .u64 m] w fun e w' => e = .returned (.tuple #[]) ∧ w'.heap[g]? = some (.cells (cellsOf (sipWord m s)) 37 (0,0)) ∧ Trn w0 w w' g := by
  obtain ⟨a, b, c, d⟩ := s
  have hA := Aside0.mk hb
  have hg0 := Aside0.mk hg
  have hK := Aside0.mk (Trn.refl (g := g) hB0)
  clear hb hg hB0
  go_enter Try.func18, Try.ntmps18
  go_wp2
  refine tail_drew 8 (by kernel_rfl) (by kernel_rfl) (fun wd hwd => ?_)
  have hB : wd.heap[g]? = some (.cells #[.int .u64 a, .int .u64 b, .int .u64 c, .int .u64 d] 37 (0, 0)) := by rw [hwd]; exact blk_drew hA.out
  have hKd : Trn w0 w wd g := by rw [hwd]; exact Trn.drew hK.out
  clear hwd hA hK
  simp only [List.take_succ_cons, List.take_zero, List.drop_succ_cons, List.drop_zero]
  have hc3 := (blk_cell hB 3).trans rfl
  have hf3 := blk_frozen hB 3
  have hA1 : Aside0 ((wd.setCell ⟨g, 3, none⟩ (.int .u64 (Go.bits .xor .u64 d m))).heap[g]? = some (.cells (cellsOf (a, b, c, Go.bits .xor .u64 d m)) 37 (0, 0))) := ⟨blk_put hB 3 _ rfl⟩
  have hK1 : Aside0 (Trn w0 w (wd.setCell ⟨g, 3, none⟩ (.int .u64 (Go.bits .xor .u64 d m))) g) := ⟨Trn.set hKd hg0.out 3 _⟩
  clear hB hKd
  repeat still_step
  refine wpStill_nil ?_
  go_wp2_with fail
  clear hc3 hf3
  generalize wd.setCell ⟨g, 3, none⟩ (.int .u64 (Go.bits .xor .u64 d m)) = w1 at hA1 hK1 ⊢
  have hc : Aside0 (Calls Try.prog 19 #[.pointer (some ⟨g, 0, none⟩), .int .i64 2] w1 fun e w' => e = .returned (.tuple #[]) ∧ w'.heap[g]? = some (.cells (cellsOf (sipRounds 2 (a, b, c, Go.bits .xor .u64 d m))) 37 (0,0)) ∧ Trn w0 w1 w' g) := ⟨rounds_calls g _ 2 w0 w1 hA1.out hg0.out hK1.out.2 (by omega)⟩
  clear hA1
  go_wp2_with ((go_at_call 19; refine hc.out.mono ?_; clear hc; rintro e w2 ⟨rfl, hq, hq2⟩; have hA := Aside0.mk hq; have hK := Aside0.mk (hK1.out.trans hq2); clear hq hq2 hK1))
  obtain ⟨⟨a1, b1, c1, d1⟩, hs1⟩ : ∃ q, q = sipRounds 2 (a, b, c, Go.bits .xor .u64 d m) := ⟨_, rfl⟩
  have hz : Aside0 (sipWord m (a, b, c, d) = (Go.bits .xor .u64 a1 m, b1, c1, d1)) := ⟨by simp only [sipWord, ← hs1]⟩
  have hq := hA.out
  rw [← hs1] at hq
  clear hA hs1
  have hA := Aside0.mk hq
  clear hq
  refine tail_drew 8 (by kernel_rfl) (by kernel_rfl) (fun wd2 hwd => ?_)
  have hB : wd2.heap[g]? = some (.cells #[.int .u64 a1, .int .u64 b1, .int .u64 c1, .int .u64 d1] 37 (0, 0)) := by rw [hwd]; exact blk_drew hA.out
  have hKd : Trn w0 w wd2 g := by rw [hwd]; exact Trn.drew hK.out
  clear hwd hA hK
  simp only [List.take_succ_cons, List.take_zero, List.drop_succ_cons, List.drop_zero]
  have hc0 := (blk_cell hB 0).trans rfl
  have hf0 := blk_frozen hB 0
  have hA1 : Aside0 ((wd2.setCell ⟨g, 0, none⟩ (.int .u64 (Go.bits .xor .u64 a1 m))).heap[g]? = some (.cells (cellsOf (Go.bits .xor .u64 a1 m, b1, c1, d1)) 37 (0, 0))) := ⟨blk_put hB 0 _ rfl⟩
  have hK1 : Aside0 (Trn w0 w (wd2.setCell ⟨g, 0, none⟩ (.int .u64 (Go.bits .xor .u64 a1 m))) g) := ⟨Trn.set hKd hg0.out 0 _⟩
  clear hB hKd
  repeat still_step
  refine wpStill_nil ?_
  go_wp2
  go_end0
  exact ⟨rfl, by rw [hz.out]; exact hA1.out, hK1.out⟩

theorem bz_drew {w W : World} {g2 : Nat} {o : Obj} (h : Below w.heap.size w W ∧ W.heap[g2]? = some o) : Below w.heap.size w W.drew ∧ W.drew.heap[g2]? = some o := ⟨below_drew1 h.1, h.2⟩
theorem bz_set {w W : World} {g g2 : Nat} {cs : Array Value} {t : TypeId} (hg : w.heap.size ≤ g ∧ g2 ≠ g) (h : Below w.heap.size w W ∧ W.heap[g2]? = some (.cells cs t (0, 0))) (j : Nat) (u : Value) : Below w.heap.size w (W.setCell ⟨g, j, none⟩ u) ∧ (W.setCell ⟨g, j, none⟩ u).heap[g2]? = some (.cells cs t (0, 0)) := ⟨below_set h.1 hg.1, blk_far h.2 hg.2 u⟩
set_option maxHeartbeats 4000000 in
set_option maxRecDepth 100000 in
theorem refRounds_calls (s : Int × Int × Int × Int) (n : Nat) (w : World) (hn : n ≤ 100) :
    Calls Try.prog 20 #[.agg (cellsOf s), .int .i64 (n : Int)] w fun e w' => e = .returned (.agg (cellsOf (sipRounds n s))) ∧ Below w.heap.size w w' := by
  obtain ⟨a0, b0, c0, d0⟩ := s
  have hu := Try.underlying42
  go_enter Try.func20, Try.ntmps20
  go_wp2
  obtain ⟨g, hg⟩ : ∃ g, g = w.heap.size := ⟨_, rfl⟩
  obtain ⟨g2, hg2⟩ : ∃ g, g = w.heap.size + 1 := ⟨_, rfl⟩
  have hgg : Aside0 (w.heap.size ≤ g ∧ g2 ≠ g) := ⟨by omega⟩
  have hgp : Aside0 (w.heap.size ≤ g2 ∧ g ≠ g2) := ⟨by omega⟩
  have h1 : Aside0 (((w.alloc (Obj.cells (cellsOf (a0, b0, c0, d0)) 42)).alloc (Obj.cells #[.int .u64 0, .int .u64 0, .int .u64 0, .int .u64 0] 42)).heap[g]? = some (.cells (cellsOf (a0, b0, c0, d0)) 42 (0, 0))) := ⟨by rw [hg]; exact blk_alloc (heap_alloc_new w _) _⟩
  have h2 : Aside0 (((w.alloc (Obj.cells (cellsOf (a0, b0, c0, d0)) 42)).alloc (Obj.cells #[.int .u64 0, .int .u64 0, .int .u64 0, .int .u64 0] 42)).heap[g2]? = some (.cells #[.int .u64 0, .int .u64 0, .int .u64 0, .int .u64 0] 42 (0, 0))) := ⟨by rw [hg2]; simpa using heap_alloc_new (w.alloc (Obj.cells (cellsOf (a0, b0, c0, d0)) 42)) _⟩
  have h3 : Aside0 (Below w.heap.size w ((w.alloc (Obj.cells (cellsOf (a0, b0, c0, d0)) 42)).alloc (Obj.cells #[.int .u64 0, .int .u64 0, .int .u64 0, .int .u64 0] 42))) := ⟨below_alloc (below_alloc (Below.refl _ _) _) _⟩
  rw [← hg2, ← hg]
  generalize (w.alloc (Obj.cells (cellsOf (a0, b0, c0, d0)) 42)).alloc (Obj.cells #[.int .u64 0, .int .u64 0, .int .u64 0, .int .u64 0] 42) = wz at h1 h2 h3 ⊢
  clear hg hg2
  go_loopw [5] (fun v wr => ∃ i : Nat, v = .int .i64 (i : Int) ∧ Aside0 (i ≤ n) ∧ Aside0 (wr.heap[g]? = some (.cells (cellsOf (sipRounds i (a0, b0, c0, d0))) 42 (0,0))) ∧ Aside0 (Below w.heap.size w wr ∧ wr.heap[g2]? = some (.cells #[.int .u64 0, .int .u64 0, .int .u64 0, .int .u64 0] 42 (0, 0)))) (fun v _ => n - (intOf v).toNat)
  case atStart => exact ⟨0, rfl, ⟨Nat.zero_le _⟩, h1, ⟨h3.out, h2.out⟩⟩
  case round =>
    obtain ⟨i, rfl, hi, hA0, hK⟩ := hrel
    clear h1 h2 h3
    by_cases hlt : i < n
    · obtain ⟨⟨a, b, c, d⟩, hs⟩ : ∃ q, q = sipRounds i (a0, b0, c0, d0) := ⟨_, rfl⟩
      have hS := Aside0.mk hs
      have hA : Aside0 (wr.heap[g]? = some (.cells #[.int .u64 a, .int .u64 b, .int .u64 c, .int .u64 d] 42 (0,0))) := ⟨by rw [hA0.out, ← hs]; rfl⟩
      clear hA0 hs
      have hB := hA.out
      have hKd := hK.out
      clear hA hK
      have hc0 := (blk_cell hB 0).trans rfl
      have hc1 := (blk_cell hB 1).trans rfl
      have hc2 := (blk_cell hB 2).trans rfl
      have hc3 := (blk_cell hB 3).trans rfl
      have hf0 := blk_frozen hB 0
      have hf1 := blk_frozen hB 1
      have hf2 := blk_frozen hB 2
      have hf3 := blk_frozen hB 3
      have hA0 : Aside0 ((wr.setCell ⟨g, 0, none⟩ (.int .u64 (IntKind.u64.wrap (a + b)))).heap[g]? = some (.cells #[.int .u64 (IntKind.u64.wrap (a + b)), .int .u64 b, .int .u64 c, .int .u64 d] 42 (0, 0))) := ⟨blk_put hB 0 (.int .u64 (IntKind.u64.wrap (a + b))) rfl⟩
      have hK0 : Aside0 (Below w.heap.size w (wr.setCell ⟨g, 0, none⟩ (.int .u64 (IntKind.u64.wrap (a + b)))) ∧ (wr.setCell ⟨g, 0, none⟩ (.int .u64 (IntKind.u64.wrap (a + b)))).heap[g2]? = some (.cells #[.int .u64 0, .int .u64 0, .int .u64 0, .int .u64 0] 42 (0, 0))) := ⟨bz_set hgg.out hKd 0 (.int .u64 (IntKind.u64.wrap (a + b)))⟩
      clear hB hKd
      go_wp2_with (first | (go_at_call 22; refine (rotR32 _ _).mono ?_; rintro e w' ⟨rfl, rfl⟩))
      clear hc0 hf0 hc1 hf1 hc2 hf2 hc3 hf3
      generalize wr.setCell ⟨g, 0, none⟩ (.int .u64 (IntKind.u64.wrap (a + b))) = wv0 at hA0 hK0 ⊢
      obtain ⟨x0, hx⟩ : ∃ x, x = IntKind.u64.wrap (a + b) := ⟨_, rfl⟩
      have hx0 := Aside0.mk hx
      have hq := hA0.out
      clear hA0
      rw [← hx] at hq
      have hA0 := Aside0.mk hq
      clear hq hx
      refine tail_drew 7 (by kernel_rfl) (by kernel_rfl) (fun wd1 hwd => ?_)
      have hB : wd1.heap[g]? = some (.cells #[.int .u64 x0, .int .u64 b, .int .u64 c, .int .u64 d] 42 (0, 0)) := by rw [hwd]; exact blk_drew hA0.out
      have hKd : Below w.heap.size w wd1 ∧ wd1.heap[g2]? = some (.cells #[.int .u64 0, .int .u64 0, .int .u64 0, .int .u64 0] 42 (0, 0)) := by rw [hwd]; exact bz_drew hK0.out
      clear hwd hA0 hK0
      simp only [List.take_succ_cons, List.take_zero, List.drop_succ_cons, List.drop_zero]
      have hc0 := (blk_cell hB 0).trans rfl
      have hc1 := (blk_cell hB 1).trans rfl
      have hc2 := (blk_cell hB 2).trans rfl
      have hc3 := (blk_cell hB 3).trans rfl
      have hf0 := blk_frozen hB 0
      have hf1 := blk_frozen hB 1
      have hf2 := blk_frozen hB 2
      have hf3 := blk_frozen hB 3
      have hA1 : Aside0 ((wd1.setCell ⟨g, 1, none⟩ (.int .u64 (Go.bits .xor .u64 (rot b 13) x0))).heap[g]? = some (.cells #[.int .u64 x0, .int .u64 (Go.bits .xor .u64 (rot b 13) x0), .int .u64 c, .int .u64 d] 42 (0, 0))) := ⟨blk_put hB 1 (.int .u64 (Go.bits .xor .u64 (rot b 13) x0)) rfl⟩
      have hK1 : Aside0 (Below w.heap.size w (wd1.setCell ⟨g, 1, none⟩ (.int .u64 (Go.bits .xor .u64 (rot b 13) x0))) ∧ (wd1.setCell ⟨g, 1, none⟩ (.int .u64 (Go.bits .xor .u64 (rot b 13) x0))).heap[g2]? = some (.cells #[.int .u64 0, .int .u64 0, .int .u64 0, .int .u64 0] 42 (0, 0))) := ⟨bz_set hgg.out hKd 1 (.int .u64 (Go.bits .xor .u64 (rot b 13) x0))⟩
      have hA2 : Aside0 (((wd1.setCell ⟨g, 1, none⟩ (.int .u64 (Go.bits .xor .u64 (rot b 13) x0))).setCell ⟨g, 0, none⟩ (.int .u64 (rot x0 32))).heap[g]? = some (.cells #[.int .u64 (rot x0 32), .int .u64 (Go.bits .xor .u64 (rot b 13) x0), .int .u64 c, .int .u64 d] 42 (0, 0))) := ⟨blk_put hA1.out 0 (.int .u64 (rot x0 32)) rfl⟩
      have hK2 : Aside0 (Below w.heap.size w ((wd1.setCell ⟨g, 1, none⟩ (.int .u64 (Go.bits .xor .u64 (rot b 13) x0))).setCell ⟨g, 0, none⟩ (.int .u64 (rot x0 32))) ∧ ((wd1.setCell ⟨g, 1, none⟩ (.int .u64 (Go.bits .xor .u64 (rot b 13) x0))).setCell ⟨g, 0, none⟩ (.int .u64 (rot x0 32))).heap[g2]? = some (.cells #[.int .u64 0, .int .u64 0, .int .u64 0, .int .u64 0] 42 (0, 0))) := ⟨bz_set hgg.out hK1.out 0 (.int .u64 (rot x0 32))⟩
      have hA3 : Aside0 ((((wd1.setCell ⟨g, 1, none⟩ (.int .u64 (Go.bits .xor .u64 (rot b 13) x0))).setCell ⟨g, 0, none⟩ (.int .u64 (rot x0 32))).setCell ⟨g, 2, none⟩ (.int .u64 (IntKind.u64.wrap (c + d)))).heap[g]? = some (.cells #[.int .u64 (rot x0 32), .int .u64 (Go.bits .xor .u64 (rot b 13) x0), .int .u64 (IntKind.u64.wrap (c + d)), .int .u64 d] 42 (0, 0))) := ⟨blk_put hA2.out 2 (.int .u64 (IntKind.u64.wrap (c + d))) rfl⟩
      have hK3 : Aside0 (Below w.heap.size w (((wd1.setCell ⟨g, 1, none⟩ (.int .u64 (Go.bits .xor .u64 (rot b 13) x0))).setCell ⟨g, 0, none⟩ (.int .u64 (rot x0 32))).setCell ⟨g, 2, none⟩ (.int .u64 (IntKind.u64.wrap (c + d)))) ∧ (((wd1.setCell ⟨g, 1, none⟩ (.int .u64 (Go.bits .xor .u64 (rot b 13) x0))).setCell ⟨g, 0, none⟩ (.int .u64 (rot x0 32))).setCell ⟨g, 2, none⟩ (.int .u64 (IntKind.u64.wrap (c + d)))).heap[g2]? = some (.cells #[.int .u64 0, .int .u64 0, .int .u64 0, .int .u64 0] 42 (0, 0))) := ⟨bz_set hgg.out hK2.out 2 (.int .u64 (IntKind.u64.wrap (c + d)))⟩
      clear hB hKd
      repeat still_step
      still_call (rotR13 _ _)
      repeat still_step
      refine wpStill_nil ?_
      go_wp2_with (first | (go_at_call 22; refine (rotR32 _ _).mono ?_; rintro e w' ⟨rfl, rfl⟩))
      clear hc0 hf0 hc1 hf1 hc2 hf2 hc3 hf3
      clear hA1 hK1 hA2 hK2
      generalize ((wd1.setCell ⟨g, 1, none⟩ (.int .u64 (Go.bits .xor .u64 (rot b 13) x0))).setCell ⟨g, 0, none⟩ (.int .u64 (rot x0 32))).setCell ⟨g, 2, none⟩ (.int .u64 (IntKind.u64.wrap (c + d))) = wv3 at hA3 hK3 ⊢
      obtain ⟨x1, hx⟩ : ∃ x, x = Go.bits .xor .u64 (rot b 13) x0 := ⟨_, rfl⟩
      have hx1 := Aside0.mk hx
      have hq := hA3.out
      clear hA3
      rw [← hx] at hq
      have hA3 := Aside0.mk hq
      clear hq hx
      obtain ⟨x2, hx⟩ : ∃ x, x = rot x0 32 := ⟨_, rfl⟩
      have hx2 := Aside0.mk hx
      have hq := hA3.out
      clear hA3
      rw [← hx] at hq
      have hA3 := Aside0.mk hq
      clear hq hx
      obtain ⟨x3, hx⟩ : ∃ x, x = IntKind.u64.wrap (c + d) := ⟨_, rfl⟩
      have hx3 := Aside0.mk hx
      have hq := hA3.out
      clear hA3
      rw [← hx] at hq
      have hA3 := Aside0.mk hq
      clear hq hx
      refine tail_drew 7 (by kernel_rfl) (by kernel_rfl) (fun wd4 hwd => ?_)
      have hB : wd4.heap[g]? = some (.cells #[.int .u64 x2, .int .u64 x1, .int .u64 x3, .int .u64 d] 42 (0, 0)) := by rw [hwd]; exact blk_drew hA3.out
      have hKd : Below w.heap.size w wd4 ∧ wd4.heap[g2]? = some (.cells #[.int .u64 0, .int .u64 0, .int .u64 0, .int .u64 0] 42 (0, 0)) := by rw [hwd]; exact bz_drew hK3.out
      clear hwd hA3 hK3
      simp only [List.take_succ_cons, List.take_zero, List.drop_succ_cons, List.drop_zero]
      have hc0 := (blk_cell hB 0).trans rfl
      have hc1 := (blk_cell hB 1).trans rfl
      have hc2 := (blk_cell hB 2).trans rfl
      have hc3 := (blk_cell hB 3).trans rfl
      have hf0 := blk_frozen hB 0
      have hf1 := blk_frozen hB 1
      have hf2 := blk_frozen hB 2
      have hf3 := blk_frozen hB 3
      have hA4 : Aside0 ((wd4.setCell ⟨g, 3, none⟩ (.int .u64 (Go.bits .xor .u64 (rot d 16) x3))).heap[g]? = some (.cells #[.int .u64 x2, .int .u64 x1, .int .u64 x3, .int .u64 (Go.bits .xor .u64 (rot d 16) x3)] 42 (0, 0))) := ⟨blk_put hB 3 (.int .u64 (Go.bits .xor .u64 (rot d 16) x3)) rfl⟩
      have hK4 : Aside0 (Below w.heap.size w (wd4.setCell ⟨g, 3, none⟩ (.int .u64 (Go.bits .xor .u64 (rot d 16) x3))) ∧ (wd4.setCell ⟨g, 3, none⟩ (.int .u64 (Go.bits .xor .u64 (rot d 16) x3))).heap[g2]? = some (.cells #[.int .u64 0, .int .u64 0, .int .u64 0, .int .u64 0] 42 (0, 0))) := ⟨bz_set hgg.out hKd 3 (.int .u64 (Go.bits .xor .u64 (rot d 16) x3))⟩
      have hA5 : Aside0 (((wd4.setCell ⟨g, 3, none⟩ (.int .u64 (Go.bits .xor .u64 (rot d 16) x3))).setCell ⟨g, 0, none⟩ (.int .u64 (IntKind.u64.wrap (x2 + (Go.bits .xor .u64 (rot d 16) x3))))).heap[g]? = some (.cells #[.int .u64 (IntKind.u64.wrap (x2 + (Go.bits .xor .u64 (rot d 16) x3))), .int .u64 x1, .int .u64 x3, .int .u64 (Go.bits .xor .u64 (rot d 16) x3)] 42 (0, 0))) := ⟨blk_put hA4.out 0 (.int .u64 (IntKind.u64.wrap (x2 + (Go.bits .xor .u64 (rot d 16) x3)))) rfl⟩
      have hK5 : Aside0 (Below w.heap.size w ((wd4.setCell ⟨g, 3, none⟩ (.int .u64 (Go.bits .xor .u64 (rot d 16) x3))).setCell ⟨g, 0, none⟩ (.int .u64 (IntKind.u64.wrap (x2 + (Go.bits .xor .u64 (rot d 16) x3))))) ∧ ((wd4.setCell ⟨g, 3, none⟩ (.int .u64 (Go.bits .xor .u64 (rot d 16) x3))).setCell ⟨g, 0, none⟩ (.int .u64 (IntKind.u64.wrap (x2 + (Go.bits .xor .u64 (rot d 16) x3))))).heap[g2]? = some (.cells #[.int .u64 0, .int .u64 0, .int .u64 0, .int .u64 0] 42 (0, 0))) := ⟨bz_set hgg.out hK4.out 0 (.int .u64 (IntKind.u64.wrap (x2 + (Go.bits .xor .u64 (rot d 16) x3))))⟩
      clear hB hKd
      repeat still_step
      still_call (rotR16 _ _)
      repeat still_step
      refine wpStill_nil ?_
      go_wp2_with (first | (go_at_call 22; refine (rotR32 _ _).mono ?_; rintro e w' ⟨rfl, rfl⟩))
      clear hc0 hf0 hc1 hf1 hc2 hf2 hc3 hf3
      clear hA4 hK4
      generalize (wd4.setCell ⟨g, 3, none⟩ (.int .u64 (Go.bits .xor .u64 (rot d 16) x3))).setCell ⟨g, 0, none⟩ (.int .u64 (IntKind.u64.wrap (x2 + (Go.bits .xor .u64 (rot d 16) x3)))) = wv5 at hA5 hK5 ⊢
      obtain ⟨x4, hx⟩ : ∃ x, x = Go.bits .xor .u64 (rot d 16) x3 := ⟨_, rfl⟩
      have hx4 := Aside0.mk hx
      have hq := hA5.out
      clear hA5
      rw [← hx] at hq
      have hA5 := Aside0.mk hq
      clear hq hx
      obtain ⟨x5, hx⟩ : ∃ x, x = IntKind.u64.wrap (x2 + x4) := ⟨_, rfl⟩
      have hx5 := Aside0.mk hx
      have hq := hA5.out
      clear hA5
      rw [← hx] at hq
      have hA5 := Aside0.mk hq
      clear hq hx
      refine tail_drew 7 (by kernel_rfl) (by kernel_rfl) (fun wd6 hwd => ?_)
      have hB : wd6.heap[g]? = some (.cells #[.int .u64 x5, .int .u64 x1, .int .u64 x3, .int .u64 x4] 42 (0, 0)) := by rw [hwd]; exact blk_drew hA5.out
      have hKd : Below w.heap.size w wd6 ∧ wd6.heap[g2]? = some (.cells #[.int .u64 0, .int .u64 0, .int .u64 0, .int .u64 0] 42 (0, 0)) := by rw [hwd]; exact bz_drew hK5.out
      clear hwd hA5 hK5
      simp only [List.take_succ_cons, List.take_zero, List.drop_succ_cons, List.drop_zero]
      have hc0 := (blk_cell hB 0).trans rfl
      have hc1 := (blk_cell hB 1).trans rfl
      have hc2 := (blk_cell hB 2).trans rfl
      have hc3 := (blk_cell hB 3).trans rfl
      have hf0 := blk_frozen hB 0
      have hf1 := blk_frozen hB 1
      have hf2 := blk_frozen hB 2
      have hf3 := blk_frozen hB 3
      have hA6 : Aside0 ((wd6.setCell ⟨g, 3, none⟩ (.int .u64 (Go.bits .xor .u64 (rot x4 21) x5))).heap[g]? = some (.cells #[.int .u64 x5, .int .u64 x1, .int .u64 x3, .int .u64 (Go.bits .xor .u64 (rot x4 21) x5)] 42 (0, 0))) := ⟨blk_put hB 3 (.int .u64 (Go.bits .xor .u64 (rot x4 21) x5)) rfl⟩
      have hK6 : Aside0 (Below w.heap.size w (wd6.setCell ⟨g, 3, none⟩ (.int .u64 (Go.bits .xor .u64 (rot x4 21) x5))) ∧ (wd6.setCell ⟨g, 3, none⟩ (.int .u64 (Go.bits .xor .u64 (rot x4 21) x5))).heap[g2]? = some (.cells #[.int .u64 0, .int .u64 0, .int .u64 0, .int .u64 0] 42 (0, 0))) := ⟨bz_set hgg.out hKd 3 (.int .u64 (Go.bits .xor .u64 (rot x4 21) x5))⟩
      have hA7 : Aside0 (((wd6.setCell ⟨g, 3, none⟩ (.int .u64 (Go.bits .xor .u64 (rot x4 21) x5))).setCell ⟨g, 2, none⟩ (.int .u64 (IntKind.u64.wrap (x3 + x1)))).heap[g]? = some (.cells #[.int .u64 x5, .int .u64 x1, .int .u64 (IntKind.u64.wrap (x3 + x1)), .int .u64 (Go.bits .xor .u64 (rot x4 21) x5)] 42 (0, 0))) := ⟨blk_put hA6.out 2 (.int .u64 (IntKind.u64.wrap (x3 + x1))) rfl⟩
      have hK7 : Aside0 (Below w.heap.size w ((wd6.setCell ⟨g, 3, none⟩ (.int .u64 (Go.bits .xor .u64 (rot x4 21) x5))).setCell ⟨g, 2, none⟩ (.int .u64 (IntKind.u64.wrap (x3 + x1)))) ∧ ((wd6.setCell ⟨g, 3, none⟩ (.int .u64 (Go.bits .xor .u64 (rot x4 21) x5))).setCell ⟨g, 2, none⟩ (.int .u64 (IntKind.u64.wrap (x3 + x1)))).heap[g2]? = some (.cells #[.int .u64 0, .int .u64 0, .int .u64 0, .int .u64 0] 42 (0, 0))) := ⟨bz_set hgg.out hK6.out 2 (.int .u64 (IntKind.u64.wrap (x3 + x1)))⟩
      clear hB hKd
      repeat still_step
      still_call (rotR21 _ _)
      repeat still_step
      refine wpStill_nil ?_
      go_wp2_with (first | (go_at_call 22; refine (rotR32 _ _).mono ?_; rintro e w' ⟨rfl, rfl⟩))
      clear hc0 hf0 hc1 hf1 hc2 hf2 hc3 hf3
      clear hA6 hK6
      generalize (wd6.setCell ⟨g, 3, none⟩ (.int .u64 (Go.bits .xor .u64 (rot x4 21) x5))).setCell ⟨g, 2, none⟩ (.int .u64 (IntKind.u64.wrap (x3 + x1))) = wv7 at hA7 hK7 ⊢
      obtain ⟨x6, hx⟩ : ∃ x, x = Go.bits .xor .u64 (rot x4 21) x5 := ⟨_, rfl⟩
      have hx6 := Aside0.mk hx
      have hq := hA7.out
      clear hA7
      rw [← hx] at hq
      have hA7 := Aside0.mk hq
      clear hq hx
      obtain ⟨x7, hx⟩ : ∃ x, x = IntKind.u64.wrap (x3 + x1) := ⟨_, rfl⟩
      have hx7 := Aside0.mk hx
      have hq := hA7.out
      clear hA7
      rw [← hx] at hq
      have hA7 := Aside0.mk hq
      clear hq hx
      refine tail_drew 7 (by kernel_rfl) (by kernel_rfl) (fun wd8 hwd => ?_)
      have hB : wd8.heap[g]? = some (.cells #[.int .u64 x5, .int .u64 x1, .int .u64 x7, .int .u64 x6] 42 (0, 0)) := by rw [hwd]; exact blk_drew hA7.out
      have hKd : Below w.heap.size w wd8 ∧ wd8.heap[g2]? = some (.cells #[.int .u64 0, .int .u64 0, .int .u64 0, .int .u64 0] 42 (0, 0)) := by rw [hwd]; exact bz_drew hK7.out
      clear hwd hA7 hK7
      simp only [List.take_succ_cons, List.take_zero, List.drop_succ_cons, List.drop_zero]
      have hc0 := (blk_cell hB 0).trans rfl
      have hc1 := (blk_cell hB 1).trans rfl
      have hc2 := (blk_cell hB 2).trans rfl
      have hc3 := (blk_cell hB 3).trans rfl
      have hf0 := blk_frozen hB 0
      have hf1 := blk_frozen hB 1
      have hf2 := blk_frozen hB 2
      have hf3 := blk_frozen hB 3
      have hA8 : Aside0 ((wd8.setCell ⟨g, 1, none⟩ (.int .u64 (Go.bits .xor .u64 (rot x1 17) x7))).heap[g]? = some (.cells #[.int .u64 x5, .int .u64 (Go.bits .xor .u64 (rot x1 17) x7), .int .u64 x7, .int .u64 x6] 42 (0, 0))) := ⟨blk_put hB 1 (.int .u64 (Go.bits .xor .u64 (rot x1 17) x7)) rfl⟩
      have hK8 : Aside0 (Below w.heap.size w (wd8.setCell ⟨g, 1, none⟩ (.int .u64 (Go.bits .xor .u64 (rot x1 17) x7))) ∧ (wd8.setCell ⟨g, 1, none⟩ (.int .u64 (Go.bits .xor .u64 (rot x1 17) x7))).heap[g2]? = some (.cells #[.int .u64 0, .int .u64 0, .int .u64 0, .int .u64 0] 42 (0, 0))) := ⟨bz_set hgg.out hKd 1 (.int .u64 (Go.bits .xor .u64 (rot x1 17) x7))⟩
      have hA9 : Aside0 (((wd8.setCell ⟨g, 1, none⟩ (.int .u64 (Go.bits .xor .u64 (rot x1 17) x7))).setCell ⟨g, 2, none⟩ (.int .u64 (rot x7 32))).heap[g]? = some (.cells #[.int .u64 x5, .int .u64 (Go.bits .xor .u64 (rot x1 17) x7), .int .u64 (rot x7 32), .int .u64 x6] 42 (0, 0))) := ⟨blk_put hA8.out 2 (.int .u64 (rot x7 32)) rfl⟩
      have hK9 : Aside0 (Below w.heap.size w ((wd8.setCell ⟨g, 1, none⟩ (.int .u64 (Go.bits .xor .u64 (rot x1 17) x7))).setCell ⟨g, 2, none⟩ (.int .u64 (rot x7 32))) ∧ ((wd8.setCell ⟨g, 1, none⟩ (.int .u64 (Go.bits .xor .u64 (rot x1 17) x7))).setCell ⟨g, 2, none⟩ (.int .u64 (rot x7 32))).heap[g2]? = some (.cells #[.int .u64 0, .int .u64 0, .int .u64 0, .int .u64 0] 42 (0, 0))) := ⟨bz_set hgg.out hK8.out 2 (.int .u64 (rot x7 32))⟩
      clear hB hKd
      repeat still_step
      still_call (rotR17 _ _)
      repeat still_step
      refine wpStill_nil ?_
      go_wp2_with (first | (go_at_call 22; refine (rotR32 _ _).mono ?_; rintro e w' ⟨rfl, rfl⟩))
      clear hc0 hf0 hc1 hf1 hc2 hf2 hc3 hf3
      clear hA8 hK8
      generalize (wd8.setCell ⟨g, 1, none⟩ (.int .u64 (Go.bits .xor .u64 (rot x1 17) x7))).setCell ⟨g, 2, none⟩ (.int .u64 (rot x7 32)) = wv9 at hA9 hK9 ⊢
      obtain ⟨x8, hx⟩ : ∃ x, x = Go.bits .xor .u64 (rot x1 17) x7 := ⟨_, rfl⟩
      have hx8 := Aside0.mk hx
      have hq := hA9.out
      clear hA9
      rw [← hx] at hq
      have hA9 := Aside0.mk hq
      clear hq hx
      obtain ⟨x9, hx⟩ : ∃ x, x = rot x7 32 := ⟨_, rfl⟩
      have hx9 := Aside0.mk hx
      have hq := hA9.out
      clear hA9
      rw [← hx] at hq
      have hA9 := Aside0.mk hq
      clear hq hx
      go_roundw
      case rel => exact ⟨i + 1, by go_num, ⟨by omega⟩, ⟨by
        rw [hA9.out]
        simp only [sipRounds, ← hS.out, sipOne, cellsOf, hx0.out, hx1.out, hx2.out, hx3.out, hx4.out, hx5.out, hx6.out, hx7.out, hx8.out, hx9.out]⟩, hK9⟩
      case measure => simp [intOf]; omega
    · have e : i = n := by have := hi.out; omega
      subst e
      obtain ⟨⟨a, b, c, d⟩, hs⟩ : ∃ q, q = sipRounds i (a0, b0, c0, d0) := ⟨_, rfl⟩
      have hS := Aside0.mk hs
      have hB : wr.heap[g]? = some (.cells #[.int .u64 a, .int .u64 b, .int .u64 c, .int .u64 d] 42 (0,0)) := by rw [hA0.out, ← hs]; rfl
      have hB2 := hK.out.2
      clear hA0 hs
      have hc0 := (blk_cell hB 0).trans rfl
      have hc1 := (blk_cell hB 1).trans rfl
      have hc2 := (blk_cell hB 2).trans rfl
      have hc3 := (blk_cell hB 3).trans rfl
      have hd0 := (blk_cell hB2 0).trans rfl
      have hd1 := (blk_cell hB2 1).trans rfl
      have hd2 := (blk_cell hB2 2).trans rfl
      have hd3 := (blk_cell hB2 3).trans rfl
      have hf0 := blk_frozen hB2 0
      have hf1 := blk_frozen hB2 1
      have hf2 := blk_frozen hB2 2
      have hf3 := blk_frozen hB2 3
      have hne := hgp.out.2
      have HB2 := Aside0.mk hB2
      clear hB hB2
      go_wp2
      refine bodyPost_ret (results_cell_row rfl _ _ g2 42 #[.int .u64 a, .int .u64 b, .int .u64 c, .int .u64 d] (0, 0) _ rfl (blk_put (cs := #[.int .u64 a, .int .u64 b, .int .u64 c, .int .u64 0]) (blk_put (cs := #[.int .u64 a, .int .u64 b, .int .u64 0, .int .u64 0]) (blk_put (cs := #[.int .u64 a, .int .u64 0, .int .u64 0, .int .u64 0]) (blk_put HB2.out 0 _ rfl) 1 _ rfl) 2 _ rfl) 3 _ rfl) Try.underlying42 rfl (by kernel_rfl)) rfl ?_
      exact ⟨by rw [← hS.out]; rfl, below_set (below_set (below_set (below_set hK.out.1 hgp.out.1) hgp.out.1) hgp.out.1) hgp.out.1⟩
end Go.Proofs.Ytedpmohnnagamaa.Print
