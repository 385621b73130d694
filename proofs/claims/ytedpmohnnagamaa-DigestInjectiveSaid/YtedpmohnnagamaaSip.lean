/- The contracts of digest's SipHash rounds, for every state and at most 100 rounds. -/
import Derived.Test.YtedpmohnnagamaaProg
import Derived.Below
import Derived.Deep.Draws
import Derived.Deep.AppendLies
import Derived.Maps.AppendAt
import Derived.OwnWalk
import Derived.Laws.BytesArg
import Derived.Laws.MakeOwn
import Derived.Laws.OwnMore
import Derived.Deep.OwnRows
import Derived.Tactics
import Derived.Lib.ConvBytes
import Derived.Laws.Slices
import Derived.WalkKit
import Derived.KernelRfl
import Derived.RowKit3
import Derived.Deep.LoopGhost
import Derived.Deep.QuietTactic
import Derived.BigQuiet
import Derived.WideLaws
import Derived.Deep.DeepCutAuto
import Derived.Deep.CutBlock
import Derived.Deep.RegionHeld3
import Derived.Laws.Rows
import Derived.Lib.AppendStr
import Derived.ArgAppend
import Derived.Laws.IdiomCopy
import Derived.OrdersHeld
import Derived.Laws.BitsLemmas
import Derived.RowKit
import Derived.Test.YtedpmohnnagamaaWWords
import Derived.Test.YtedpmohnnagamaaWLast
import Derived.Test.YtedpmohnnagamaaWTab
import Derived.Test.YtedpmohnnagamaaWFour
import Derived.Test.YtedpmohnnagamaaWQPut
import Derived.Test.YtedpmohnnagamaaWApart
import Derived.Test.YtedpmohnnagamaaWArr
import Derived.Test.YtedpmohnnagamaaWZeros
import Derived.Test.YtedpmohnnagamaaWFoot
import Derived.Test.YtedpmohnnagamaaWKept
import Derived.Test.YtedpmohnnagamaaWShare
import Derived.Test.YtedpmohnnagamaaWN
import Derived.Test.YtedpmohnnagamaaWFootNe
import Derived.Test.YtedpmohnnagamaaWAt
import Derived.Test.YtedpmohnnagamaaWEqStruct
import Derived.Test.YtedpmohnnagamaaWRepsOne
import Derived.Test.YtedpmohnnagamaaWInv
import Derived.Test.YtedpmohnnagamaaWInvWords
import Derived.Test.YtedpmohnnagamaaWGuard
import Derived.Test.YtedpmohnnagamaaWNEv
import Derived.Test.YtedpmohnnagamaaWMore
import Derived.StillTailTactics
import Derived.RegionTactic
namespace Go.Proofs.Ytedpmohnnagamaa.Print
open Go.RowKit Go.Proofs.YtedpmohnnagamaaW.PrintWords Go.Proofs.YtedpmohnnagamaaW.PrintLast Go.Proofs.YtedpmohnnagamaaW.PrintMore
set_option linter.unusedVariables false
set_option linter.unusedSimpArgs false

/-- 'rotl' of a word, as both programs' texts compute it. -/
def rot (x n : Int) : Int := Go.bits .or .u64 (IntKind.u64.wrap (x * 2 ^ n.toNat)) (x / 2 ^ (64 - n).toNat)
/-- One round of SipHash. -/
def sipOne (s : Int × Int × Int × Int) : Int × Int × Int × Int :=
  let x0 := IntKind.u64.wrap (s.1 + s.2.1)
  let x1 := Go.bits .xor .u64 (rot s.2.1 13) x0
  let x2 := rot x0 32
  let x3 := IntKind.u64.wrap (s.2.2.1 + s.2.2.2)
  let x4 := Go.bits .xor .u64 (rot s.2.2.2 16) x3
  let x5 := IntKind.u64.wrap (x2 + x4)
  let x6 := Go.bits .xor .u64 (rot x4 21) x5
  let x7 := IntKind.u64.wrap (x3 + x1)
  let x8 := Go.bits .xor .u64 (rot x1 17) x7
  (x5, x8, rot x7 32, x6)
def sipRounds : Nat → Int × Int × Int × Int → Int × Int × Int × Int
  | 0, s => s
  | n + 1, s => sipOne (sipRounds n s)
/-- A word is taken in. -/
def sipWord (m : Int) (s : Int × Int × Int × Int) : Int × Int × Int × Int :=
  let t := sipRounds 2 (s.1, s.2.1, s.2.2.1, Go.bits .xor .u64 s.2.2.2 m)
  (Go.bits .xor .u64 t.1 m, t.2.1, t.2.2.1, t.2.2.2)
def cellsOf (s : Int × Int × Int × Int) : Array Value := #[.int .u64 s.1, .int .u64 s.2.1, .int .u64 s.2.2.1, .int .u64 s.2.2.2]
theorem tail_drew {P : Program} {id : Nat} {Q : Exit → Act → World → Prop} {a : Act} {w : World} {l : List Oper} (n : Nat) (hm : P.follows .mixedOrders = true) (hB : Region.lexTailB .any l.toArray n = true)
    (h : ∀ wd, wd = w.drew → wpStill P l.toArray wd (fun a' => wpList P l.toArray Q (l.drop n) a' wd) (l.take n) a) : (Code.region id l.toArray true).wp P Q a w := wp_region_still_tail n hm hB (h _ rfl)
/-- Block g alone has been written, and it is newer than w0. -/
def Trn (w0 w w' : World) (g : Nat) : Prop := KeepBut w w' g none ∧ Below w0.heap.size w0 w'
theorem Trn.refl {w0 w : World} {g : Nat} (h : Below w0.heap.size w0 w) : Trn w0 w w g := ⟨KeepBut.refl _ _ _, h⟩
theorem Trn.drew {w0 w w' : World} {g : Nat} (h : Trn w0 w w' g) : Trn w0 w w'.drew g := ⟨keep_drew h.1, below_drew1 h.2⟩
theorem Trn.set {w0 w w' : World} {g : Nat} (h : Trn w0 w w' g) (hg : w0.heap.size ≤ g) (j : Nat) (u : Value) : Trn w0 w (w'.setCell ⟨g, j, none⟩ u) g := ⟨KeepBut.set_ h.1 j u, below_set h.2 hg⟩
theorem Trn.trans {w0 w w1 w2 : World} {g : Nat} (h : Trn w0 w w1 g) (k : Trn w0 w1 w2 g) : Trn w0 w w2 g := ⟨h.1.trans k.1 (.inl rfl), k.2⟩

set_option maxHeartbeats 1000000 in
theorem rotD13 (x : Int) (w : World) : Calls Try.prog 21 #[.int .u64 x, .int .i64 13] w fun e w' => e = .returned (.int .u64 (rot x 13)) ∧ w' = w := by
  have h1 : (Go.bits .and .u64 13 63) = 13 := by decide +kernel
  go_enter Try.func21, Try.ntmps21
  go_wp2
  go_ret
  exact ⟨rfl, rfl⟩

set_option maxHeartbeats 1000000 in
theorem rotD16 (x : Int) (w : World) : Calls Try.prog 21 #[.int .u64 x, .int .i64 16] w fun e w' => e = .returned (.int .u64 (rot x 16)) ∧ w' = w := by
  have h1 : (Go.bits .and .u64 16 63) = 16 := by decide +kernel
  go_enter Try.func21, Try.ntmps21
  go_wp2
  go_ret
  exact ⟨rfl, rfl⟩

set_option maxHeartbeats 1000000 in
theorem rotD17 (x : Int) (w : World) : Calls Try.prog 21 #[.int .u64 x, .int .i64 17] w fun e w' => e = .returned (.int .u64 (rot x 17)) ∧ w' = w := by
  have h1 : (Go.bits .and .u64 17 63) = 17 := by decide +kernel
  go_enter Try.func21, Try.ntmps21
  go_wp2
  go_ret
  exact ⟨rfl, rfl⟩

set_option maxHeartbeats 1000000 in
theorem rotD21 (x : Int) (w : World) : Calls Try.prog 21 #[.int .u64 x, .int .i64 21] w fun e w' => e = .returned (.int .u64 (rot x 21)) ∧ w' = w := by
  have h1 : (Go.bits .and .u64 21 63) = 21 := by decide +kernel
  go_enter Try.func21, Try.ntmps21
  go_wp2
  go_ret
  exact ⟨rfl, rfl⟩

set_option maxHeartbeats 1000000 in
theorem rotD32 (x : Int) (w : World) : Calls Try.prog 21 #[.int .u64 x, .int .i64 32] w fun e w' => e = .returned (.int .u64 (rot x 32)) ∧ w' = w := by
  have h1 : (Go.bits .and .u64 32 63) = 32 := by decide +kernel
  go_enter Try.func21, Try.ntmps21
  go_wp2
  go_ret
  exact ⟨rfl, rfl⟩

set_option maxHeartbeats 1000000 in
theorem rotR13 (x : Int) (w : World) : Calls Try.prog 22 #[.int .u64 x, .int .u64 13] w fun e w' => e = .returned (.int .u64 (rot x 13)) ∧ w' = w := by
  have h1 : (Go.bits .and .u64 13 63) = 13 := by decide +kernel
  go_enter Try.func22, Try.ntmps22
  go_wp2
  go_ret
  exact ⟨rfl, rfl⟩

set_option maxHeartbeats 1000000 in
theorem rotR16 (x : Int) (w : World) : Calls Try.prog 22 #[.int .u64 x, .int .u64 16] w fun e w' => e = .returned (.int .u64 (rot x 16)) ∧ w' = w := by
  have h1 : (Go.bits .and .u64 16 63) = 16 := by decide +kernel
  go_enter Try.func22, Try.ntmps22
  go_wp2
  go_ret
  exact ⟨rfl, rfl⟩

set_option maxHeartbeats 1000000 in
theorem rotR17 (x : Int) (w : World) : Calls Try.prog 22 #[.int .u64 x, .int .u64 17] w fun e w' => e = .returned (.int .u64 (rot x 17)) ∧ w' = w := by
  have h1 : (Go.bits .and .u64 17 63) = 17 := by decide +kernel
  go_enter Try.func22, Try.ntmps22
  go_wp2
  go_ret
  exact ⟨rfl, rfl⟩

set_option maxHeartbeats 1000000 in
theorem rotR21 (x : Int) (w : World) : Calls Try.prog 22 #[.int .u64 x, .int .u64 21] w fun e w' => e = .returned (.int .u64 (rot x 21)) ∧ w' = w := by
  have h1 : (Go.bits .and .u64 21 63) = 21 := by decide +kernel
  go_enter Try.func22, Try.ntmps22
  go_wp2
  go_ret
  exact ⟨rfl, rfl⟩

set_option maxHeartbeats 1000000 in
theorem rotR32 (x : Int) (w : World) : Calls Try.prog 22 #[.int .u64 x, .int .u64 32] w fun e w' => e = .returned (.int .u64 (rot x 32)) ∧ w' = w := by
  have h1 : (Go.bits .and .u64 32 63) = 32 := by decide +kernel
  go_enter Try.func22, Try.ntmps22
  go_wp2
  go_ret
  exact ⟨rfl, rfl⟩

set_option maxHeartbeats 4000000 in
set_option maxRecDepth 100000 in
theorem rounds_calls (g : Nat) (s : Int × Int × Int × Int) (n : Nat) (w0 w : World) (hb : w.heap[g]? = some (.cells (cellsOf s) 37 (0,0))) (hg : w0.heap.size ≤ g) (hB : Below w0.heap.size w0 w) (hn : n ≤ 100) :
    Calls Try.prog 19 #[.pointer (some ⟨g, 0, none⟩), .int .i64 (n : Int)] w fun e w' => e = .returned (.tuple #[]) ∧ w'.heap[g]? = some (.cells (cellsOf (sipRounds n s)) 37 (0,0)) ∧ Trn w0 w w' g := by
  have HB := Aside0.mk hb
  have hg0 := Aside0.mk hg
  have HT := Aside0.mk (Trn.refl (g := g) hB)
  clear hb hg hB
  go_enter Try.func19, Try.ntmps19
  go_wp2
  go_loopw [5] (fun v wr => ∃ i : Nat, v = .int .i64 (i : Int) ∧ Aside0 (i ≤ n) ∧ Aside0 (wr.heap[g]? = some (.cells (cellsOf (sipRounds i s)) 37 (0,0))) ∧ Aside0 (Trn w0 w wr g)) (fun v _ => n - (intOf v).toNat)
  case atStart => exact ⟨0, rfl, ⟨Nat.zero_le _⟩, HB, HT⟩
  case round =>
    obtain ⟨i, rfl, hi, hA0, hK⟩ := hrel
    clear HB HT
    by_cases hlt : i < n
    · obtain ⟨⟨a, b, c, d⟩, hs⟩ : ∃ q, q = sipRounds i s := ⟨_, rfl⟩
      have hS := Aside0.mk hs
      have hA : Aside0 (wr.heap[g]? = some (.cells #[.int .u64 a, .int .u64 b, .int .u64 c, .int .u64 d] 37 (0,0))) := ⟨by rw [hA0.out, ← hs]; rfl⟩
      clear hA0 hs
      go_wp2
      refine tail_drew 11 (by kernel_rfl) (by kernel_rfl) (fun wd0 hwd => ?_)
      have hB : wd0.heap[g]? = some (.cells #[.int .u64 a, .int .u64 b, .int .u64 c, .int .u64 d] 37 (0, 0)) := by rw [hwd]; exact blk_drew hA.out
      have hKd : Trn w0 w wd0 g := by rw [hwd]; exact Trn.drew hK.out
      clear hwd hA hK
      simp only [List.take_succ_cons, List.take_zero, List.drop_succ_cons, List.drop_zero]
      have hc0 := (blk_cell hB 0).trans rfl
      have hc1 := (blk_cell hB 1).trans rfl
      have hc2 := (blk_cell hB 2).trans rfl
      have hc3 := (blk_cell hB 3).trans rfl
      have hf0 := blk_frozen hB 0
      have hf1 := blk_frozen hB 1
      have hf2 := blk_frozen hB 2
      have hf3 := blk_frozen hB 3
      have hA0 : Aside0 ((wd0.setCell ⟨g, 0, none⟩ (.int .u64 (IntKind.u64.wrap (a + b)))).heap[g]? = some (.cells #[.int .u64 (IntKind.u64.wrap (a + b)), .int .u64 b, .int .u64 c, .int .u64 d] 37 (0, 0))) := ⟨blk_put hB 0 (.int .u64 (IntKind.u64.wrap (a + b))) rfl⟩
      have hK0 : Aside0 (Trn w0 w (wd0.setCell ⟨g, 0, none⟩ (.int .u64 (IntKind.u64.wrap (a + b)))) g) := ⟨Trn.set hKd hg0.out 0 (.int .u64 (IntKind.u64.wrap (a + b)))⟩
      clear hB hKd
      repeat still_step
      refine wpStill_nil ?_
      go_wp2
      clear hc0 hf0 hc1 hf1 hc2 hf2 hc3 hf3
      generalize wd0.setCell ⟨g, 0, none⟩ (.int .u64 (IntKind.u64.wrap (a + b))) = wv0 at hA0 hK0 ⊢
      obtain ⟨x0, hx⟩ : ∃ x, x = IntKind.u64.wrap (a + b) := ⟨_, rfl⟩
      have hx0 := Aside0.mk hx
      have hq := hA0.out
      clear hA0
      rw [← hx] at hq
      have hA0 := Aside0.mk hq
      clear hq hx
      refine tail_drew 13 (by kernel_rfl) (by kernel_rfl) (fun wd1 hwd => ?_)
      have hB : wd1.heap[g]? = some (.cells #[.int .u64 x0, .int .u64 b, .int .u64 c, .int .u64 d] 37 (0, 0)) := by rw [hwd]; exact blk_drew hA0.out
      have hKd : Trn w0 w wd1 g := by rw [hwd]; exact Trn.drew hK0.out
      clear hwd hA0 hK0
      simp only [List.take_succ_cons, List.take_zero, List.drop_succ_cons, List.drop_zero]
      have hc0 := (blk_cell hB 0).trans rfl
      have hc1 := (blk_cell hB 1).trans rfl
      have hc2 := (blk_cell hB 2).trans rfl
      have hc3 := (blk_cell hB 3).trans rfl
      have hf0 := blk_frozen hB 0
      have hf1 := blk_frozen hB 1
      have hf2 := blk_frozen hB 2
      have hf3 := blk_frozen hB 3
      have hA1 : Aside0 ((wd1.setCell ⟨g, 1, none⟩ (.int .u64 (Go.bits .xor .u64 (rot b 13) x0))).heap[g]? = some (.cells #[.int .u64 x0, .int .u64 (Go.bits .xor .u64 (rot b 13) x0), .int .u64 c, .int .u64 d] 37 (0, 0))) := ⟨blk_put hB 1 (.int .u64 (Go.bits .xor .u64 (rot b 13) x0)) rfl⟩
      have hK1 : Aside0 (Trn w0 w (wd1.setCell ⟨g, 1, none⟩ (.int .u64 (Go.bits .xor .u64 (rot b 13) x0))) g) := ⟨Trn.set hKd hg0.out 1 (.int .u64 (Go.bits .xor .u64 (rot b 13) x0))⟩
      clear hB hKd
      repeat still_step
      still_call (rotD13 _ _)
      repeat still_step
      refine wpStill_nil ?_
      go_wp2
      clear hc0 hf0 hc1 hf1 hc2 hf2 hc3 hf3
      generalize wd1.setCell ⟨g, 1, none⟩ (.int .u64 (Go.bits .xor .u64 (rot b 13) x0)) = wv1 at hA1 hK1 ⊢
      obtain ⟨x1, hx⟩ : ∃ x, x = Go.bits .xor .u64 (rot b 13) x0 := ⟨_, rfl⟩
      have hx1 := Aside0.mk hx
      have hq := hA1.out
      clear hA1
      rw [← hx] at hq
      have hA1 := Aside0.mk hq
      clear hq hx
      refine tail_drew 8 (by kernel_rfl) (by kernel_rfl) (fun wd2 hwd => ?_)
      have hB : wd2.heap[g]? = some (.cells #[.int .u64 x0, .int .u64 x1, .int .u64 c, .int .u64 d] 37 (0, 0)) := by rw [hwd]; exact blk_drew hA1.out
      have hKd : Trn w0 w wd2 g := by rw [hwd]; exact Trn.drew hK1.out
      clear hwd hA1 hK1
      simp only [List.take_succ_cons, List.take_zero, List.drop_succ_cons, List.drop_zero]
      have hc0 := (blk_cell hB 0).trans rfl
      have hc1 := (blk_cell hB 1).trans rfl
      have hc2 := (blk_cell hB 2).trans rfl
      have hc3 := (blk_cell hB 3).trans rfl
      have hf0 := blk_frozen hB 0
      have hf1 := blk_frozen hB 1
      have hf2 := blk_frozen hB 2
      have hf3 := blk_frozen hB 3
      have hA2 : Aside0 ((wd2.setCell ⟨g, 0, none⟩ (.int .u64 (rot x0 32))).heap[g]? = some (.cells #[.int .u64 (rot x0 32), .int .u64 x1, .int .u64 c, .int .u64 d] 37 (0, 0))) := ⟨blk_put hB 0 (.int .u64 (rot x0 32)) rfl⟩
      have hK2 : Aside0 (Trn w0 w (wd2.setCell ⟨g, 0, none⟩ (.int .u64 (rot x0 32))) g) := ⟨Trn.set hKd hg0.out 0 (.int .u64 (rot x0 32))⟩
      clear hB hKd
      repeat still_step
      still_call (rotD32 _ _)
      repeat still_step
      refine wpStill_nil ?_
      go_wp2
      clear hc0 hf0 hc1 hf1 hc2 hf2 hc3 hf3
      generalize wd2.setCell ⟨g, 0, none⟩ (.int .u64 (rot x0 32)) = wv2 at hA2 hK2 ⊢
      obtain ⟨x2, hx⟩ : ∃ x, x = rot x0 32 := ⟨_, rfl⟩
      have hx2 := Aside0.mk hx
      have hq := hA2.out
      clear hA2
      rw [← hx] at hq
      have hA2 := Aside0.mk hq
      clear hq hx
      refine tail_drew 11 (by kernel_rfl) (by kernel_rfl) (fun wd3 hwd => ?_)
      have hB : wd3.heap[g]? = some (.cells #[.int .u64 x2, .int .u64 x1, .int .u64 c, .int .u64 d] 37 (0, 0)) := by rw [hwd]; exact blk_drew hA2.out
      have hKd : Trn w0 w wd3 g := by rw [hwd]; exact Trn.drew hK2.out
      clear hwd hA2 hK2
      simp only [List.take_succ_cons, List.take_zero, List.drop_succ_cons, List.drop_zero]
      have hc0 := (blk_cell hB 0).trans rfl
      have hc1 := (blk_cell hB 1).trans rfl
      have hc2 := (blk_cell hB 2).trans rfl
      have hc3 := (blk_cell hB 3).trans rfl
      have hf0 := blk_frozen hB 0
      have hf1 := blk_frozen hB 1
      have hf2 := blk_frozen hB 2
      have hf3 := blk_frozen hB 3
      have hA3 : Aside0 ((wd3.setCell ⟨g, 2, none⟩ (.int .u64 (IntKind.u64.wrap (c + d)))).heap[g]? = some (.cells #[.int .u64 x2, .int .u64 x1, .int .u64 (IntKind.u64.wrap (c + d)), .int .u64 d] 37 (0, 0))) := ⟨blk_put hB 2 (.int .u64 (IntKind.u64.wrap (c + d))) rfl⟩
      have hK3 : Aside0 (Trn w0 w (wd3.setCell ⟨g, 2, none⟩ (.int .u64 (IntKind.u64.wrap (c + d)))) g) := ⟨Trn.set hKd hg0.out 2 (.int .u64 (IntKind.u64.wrap (c + d)))⟩
      clear hB hKd
      repeat still_step
      refine wpStill_nil ?_
      go_wp2
      clear hc0 hf0 hc1 hf1 hc2 hf2 hc3 hf3
      generalize wd3.setCell ⟨g, 2, none⟩ (.int .u64 (IntKind.u64.wrap (c + d))) = wv3 at hA3 hK3 ⊢
      obtain ⟨x3, hx⟩ : ∃ x, x = IntKind.u64.wrap (c + d) := ⟨_, rfl⟩
      have hx3 := Aside0.mk hx
      have hq := hA3.out
      clear hA3
      rw [← hx] at hq
      have hA3 := Aside0.mk hq
      clear hq hx
      refine tail_drew 13 (by kernel_rfl) (by kernel_rfl) (fun wd4 hwd => ?_)
      have hB : wd4.heap[g]? = some (.cells #[.int .u64 x2, .int .u64 x1, .int .u64 x3, .int .u64 d] 37 (0, 0)) := by rw [hwd]; exact blk_drew hA3.out
      have hKd : Trn w0 w wd4 g := by rw [hwd]; exact Trn.drew hK3.out
      clear hwd hA3 hK3
      simp only [List.take_succ_cons, List.take_zero, List.drop_succ_cons, List.drop_zero]
      have hc0 := (blk_cell hB 0).trans rfl
      have hc1 := (blk_cell hB 1).trans rfl
      have hc2 := (blk_cell hB 2).trans rfl
      have hc3 := (blk_cell hB 3).trans rfl
      have hf0 := blk_frozen hB 0
      have hf1 := blk_frozen hB 1
      have hf2 := blk_frozen hB 2
      have hf3 := blk_frozen hB 3
      have hA4 : Aside0 ((wd4.setCell ⟨g, 3, none⟩ (.int .u64 (Go.bits .xor .u64 (rot d 16) x3))).heap[g]? = some (.cells #[.int .u64 x2, .int .u64 x1, .int .u64 x3, .int .u64 (Go.bits .xor .u64 (rot d 16) x3)] 37 (0, 0))) := ⟨blk_put hB 3 (.int .u64 (Go.bits .xor .u64 (rot d 16) x3)) rfl⟩
      have hK4 : Aside0 (Trn w0 w (wd4.setCell ⟨g, 3, none⟩ (.int .u64 (Go.bits .xor .u64 (rot d 16) x3))) g) := ⟨Trn.set hKd hg0.out 3 (.int .u64 (Go.bits .xor .u64 (rot d 16) x3))⟩
      clear hB hKd
      repeat still_step
      still_call (rotD16 _ _)
      repeat still_step
      refine wpStill_nil ?_
      go_wp2
      clear hc0 hf0 hc1 hf1 hc2 hf2 hc3 hf3
      generalize wd4.setCell ⟨g, 3, none⟩ (.int .u64 (Go.bits .xor .u64 (rot d 16) x3)) = wv4 at hA4 hK4 ⊢
      obtain ⟨x4, hx⟩ : ∃ x, x = Go.bits .xor .u64 (rot d 16) x3 := ⟨_, rfl⟩
      have hx4 := Aside0.mk hx
      have hq := hA4.out
      clear hA4
      rw [← hx] at hq
      have hA4 := Aside0.mk hq
      clear hq hx
      refine tail_drew 11 (by kernel_rfl) (by kernel_rfl) (fun wd5 hwd => ?_)
      have hB : wd5.heap[g]? = some (.cells #[.int .u64 x2, .int .u64 x1, .int .u64 x3, .int .u64 x4] 37 (0, 0)) := by rw [hwd]; exact blk_drew hA4.out
      have hKd : Trn w0 w wd5 g := by rw [hwd]; exact Trn.drew hK4.out
      clear hwd hA4 hK4
      simp only [List.take_succ_cons, List.take_zero, List.drop_succ_cons, List.drop_zero]
      have hc0 := (blk_cell hB 0).trans rfl
      have hc1 := (blk_cell hB 1).trans rfl
      have hc2 := (blk_cell hB 2).trans rfl
      have hc3 := (blk_cell hB 3).trans rfl
      have hf0 := blk_frozen hB 0
      have hf1 := blk_frozen hB 1
      have hf2 := blk_frozen hB 2
      have hf3 := blk_frozen hB 3
      have hA5 : Aside0 ((wd5.setCell ⟨g, 0, none⟩ (.int .u64 (IntKind.u64.wrap (x2 + x4)))).heap[g]? = some (.cells #[.int .u64 (IntKind.u64.wrap (x2 + x4)), .int .u64 x1, .int .u64 x3, .int .u64 x4] 37 (0, 0))) := ⟨blk_put hB 0 (.int .u64 (IntKind.u64.wrap (x2 + x4))) rfl⟩
      have hK5 : Aside0 (Trn w0 w (wd5.setCell ⟨g, 0, none⟩ (.int .u64 (IntKind.u64.wrap (x2 + x4)))) g) := ⟨Trn.set hKd hg0.out 0 (.int .u64 (IntKind.u64.wrap (x2 + x4)))⟩
      clear hB hKd
      repeat still_step
      refine wpStill_nil ?_
      go_wp2
      clear hc0 hf0 hc1 hf1 hc2 hf2 hc3 hf3
      generalize wd5.setCell ⟨g, 0, none⟩ (.int .u64 (IntKind.u64.wrap (x2 + x4))) = wv5 at hA5 hK5 ⊢
      obtain ⟨x5, hx⟩ : ∃ x, x = IntKind.u64.wrap (x2 + x4) := ⟨_, rfl⟩
      have hx5 := Aside0.mk hx
      have hq := hA5.out
      clear hA5
      rw [← hx] at hq
      have hA5 := Aside0.mk hq
      clear hq hx
      refine tail_drew 13 (by kernel_rfl) (by kernel_rfl) (fun wd6 hwd => ?_)
      have hB : wd6.heap[g]? = some (.cells #[.int .u64 x5, .int .u64 x1, .int .u64 x3, .int .u64 x4] 37 (0, 0)) := by rw [hwd]; exact blk_drew hA5.out
      have hKd : Trn w0 w wd6 g := by rw [hwd]; exact Trn.drew hK5.out
      clear hwd hA5 hK5
      simp only [List.take_succ_cons, List.take_zero, List.drop_succ_cons, List.drop_zero]
      have hc0 := (blk_cell hB 0).trans rfl
      have hc1 := (blk_cell hB 1).trans rfl
      have hc2 := (blk_cell hB 2).trans rfl
      have hc3 := (blk_cell hB 3).trans rfl
      have hf0 := blk_frozen hB 0
      have hf1 := blk_frozen hB 1
      have hf2 := blk_frozen hB 2
      have hf3 := blk_frozen hB 3
      have hA6 : Aside0 ((wd6.setCell ⟨g, 3, none⟩ (.int .u64 (Go.bits .xor .u64 (rot x4 21) x5))).heap[g]? = some (.cells #[.int .u64 x5, .int .u64 x1, .int .u64 x3, .int .u64 (Go.bits .xor .u64 (rot x4 21) x5)] 37 (0, 0))) := ⟨blk_put hB 3 (.int .u64 (Go.bits .xor .u64 (rot x4 21) x5)) rfl⟩
      have hK6 : Aside0 (Trn w0 w (wd6.setCell ⟨g, 3, none⟩ (.int .u64 (Go.bits .xor .u64 (rot x4 21) x5))) g) := ⟨Trn.set hKd hg0.out 3 (.int .u64 (Go.bits .xor .u64 (rot x4 21) x5))⟩
      clear hB hKd
      repeat still_step
      still_call (rotD21 _ _)
      repeat still_step
      refine wpStill_nil ?_
      go_wp2
      clear hc0 hf0 hc1 hf1 hc2 hf2 hc3 hf3
      generalize wd6.setCell ⟨g, 3, none⟩ (.int .u64 (Go.bits .xor .u64 (rot x4 21) x5)) = wv6 at hA6 hK6 ⊢
      obtain ⟨x6, hx⟩ : ∃ x, x = Go.bits .xor .u64 (rot x4 21) x5 := ⟨_, rfl⟩
      have hx6 := Aside0.mk hx
      have hq := hA6.out
      clear hA6
      rw [← hx] at hq
      have hA6 := Aside0.mk hq
      clear hq hx
      refine tail_drew 11 (by kernel_rfl) (by kernel_rfl) (fun wd7 hwd => ?_)
      have hB : wd7.heap[g]? = some (.cells #[.int .u64 x5, .int .u64 x1, .int .u64 x3, .int .u64 x6] 37 (0, 0)) := by rw [hwd]; exact blk_drew hA6.out
      have hKd : Trn w0 w wd7 g := by rw [hwd]; exact Trn.drew hK6.out
      clear hwd hA6 hK6
      simp only [List.take_succ_cons, List.take_zero, List.drop_succ_cons, List.drop_zero]
      have hc0 := (blk_cell hB 0).trans rfl
      have hc1 := (blk_cell hB 1).trans rfl
      have hc2 := (blk_cell hB 2).trans rfl
      have hc3 := (blk_cell hB 3).trans rfl
      have hf0 := blk_frozen hB 0
      have hf1 := blk_frozen hB 1
      have hf2 := blk_frozen hB 2
      have hf3 := blk_frozen hB 3
      have hA7 : Aside0 ((wd7.setCell ⟨g, 2, none⟩ (.int .u64 (IntKind.u64.wrap (x3 + x1)))).heap[g]? = some (.cells #[.int .u64 x5, .int .u64 x1, .int .u64 (IntKind.u64.wrap (x3 + x1)), .int .u64 x6] 37 (0, 0))) := ⟨blk_put hB 2 (.int .u64 (IntKind.u64.wrap (x3 + x1))) rfl⟩
      have hK7 : Aside0 (Trn w0 w (wd7.setCell ⟨g, 2, none⟩ (.int .u64 (IntKind.u64.wrap (x3 + x1)))) g) := ⟨Trn.set hKd hg0.out 2 (.int .u64 (IntKind.u64.wrap (x3 + x1)))⟩
      clear hB hKd
      repeat still_step
      refine wpStill_nil ?_
      go_wp2
      clear hc0 hf0 hc1 hf1 hc2 hf2 hc3 hf3
      generalize wd7.setCell ⟨g, 2, none⟩ (.int .u64 (IntKind.u64.wrap (x3 + x1))) = wv7 at hA7 hK7 ⊢
      obtain ⟨x7, hx⟩ : ∃ x, x = IntKind.u64.wrap (x3 + x1) := ⟨_, rfl⟩
      have hx7 := Aside0.mk hx
      have hq := hA7.out
      clear hA7
      rw [← hx] at hq
      have hA7 := Aside0.mk hq
      clear hq hx
      refine tail_drew 13 (by kernel_rfl) (by kernel_rfl) (fun wd8 hwd => ?_)
      have hB : wd8.heap[g]? = some (.cells #[.int .u64 x5, .int .u64 x1, .int .u64 x7, .int .u64 x6] 37 (0, 0)) := by rw [hwd]; exact blk_drew hA7.out
      have hKd : Trn w0 w wd8 g := by rw [hwd]; exact Trn.drew hK7.out
      clear hwd hA7 hK7
      simp only [List.take_succ_cons, List.take_zero, List.drop_succ_cons, List.drop_zero]
      have hc0 := (blk_cell hB 0).trans rfl
      have hc1 := (blk_cell hB 1).trans rfl
      have hc2 := (blk_cell hB 2).trans rfl
      have hc3 := (blk_cell hB 3).trans rfl
      have hf0 := blk_frozen hB 0
      have hf1 := blk_frozen hB 1
      have hf2 := blk_frozen hB 2
      have hf3 := blk_frozen hB 3
      have hA8 : Aside0 ((wd8.setCell ⟨g, 1, none⟩ (.int .u64 (Go.bits .xor .u64 (rot x1 17) x7))).heap[g]? = some (.cells #[.int .u64 x5, .int .u64 (Go.bits .xor .u64 (rot x1 17) x7), .int .u64 x7, .int .u64 x6] 37 (0, 0))) := ⟨blk_put hB 1 (.int .u64 (Go.bits .xor .u64 (rot x1 17) x7)) rfl⟩
      have hK8 : Aside0 (Trn w0 w (wd8.setCell ⟨g, 1, none⟩ (.int .u64 (Go.bits .xor .u64 (rot x1 17) x7))) g) := ⟨Trn.set hKd hg0.out 1 (.int .u64 (Go.bits .xor .u64 (rot x1 17) x7))⟩
      clear hB hKd
      repeat still_step
      still_call (rotD17 _ _)
      repeat still_step
      refine wpStill_nil ?_
      go_wp2
      clear hc0 hf0 hc1 hf1 hc2 hf2 hc3 hf3
      generalize wd8.setCell ⟨g, 1, none⟩ (.int .u64 (Go.bits .xor .u64 (rot x1 17) x7)) = wv8 at hA8 hK8 ⊢
      obtain ⟨x8, hx⟩ : ∃ x, x = Go.bits .xor .u64 (rot x1 17) x7 := ⟨_, rfl⟩
      have hx8 := Aside0.mk hx
      have hq := hA8.out
      clear hA8
      rw [← hx] at hq
      have hA8 := Aside0.mk hq
      clear hq hx
      refine tail_drew 8 (by kernel_rfl) (by kernel_rfl) (fun wd9 hwd => ?_)
      have hB : wd9.heap[g]? = some (.cells #[.int .u64 x5, .int .u64 x8, .int .u64 x7, .int .u64 x6] 37 (0, 0)) := by rw [hwd]; exact blk_drew hA8.out
      have hKd : Trn w0 w wd9 g := by rw [hwd]; exact Trn.drew hK8.out
      clear hwd hA8 hK8
      simp only [List.take_succ_cons, List.take_zero, List.drop_succ_cons, List.drop_zero]
      have hc0 := (blk_cell hB 0).trans rfl
      have hc1 := (blk_cell hB 1).trans rfl
      have hc2 := (blk_cell hB 2).trans rfl
      have hc3 := (blk_cell hB 3).trans rfl
      have hf0 := blk_frozen hB 0
      have hf1 := blk_frozen hB 1
      have hf2 := blk_frozen hB 2
      have hf3 := blk_frozen hB 3
      have hA9 : Aside0 ((wd9.setCell ⟨g, 2, none⟩ (.int .u64 (rot x7 32))).heap[g]? = some (.cells #[.int .u64 x5, .int .u64 x8, .int .u64 (rot x7 32), .int .u64 x6] 37 (0, 0))) := ⟨blk_put hB 2 (.int .u64 (rot x7 32)) rfl⟩
      have hK9 : Aside0 (Trn w0 w (wd9.setCell ⟨g, 2, none⟩ (.int .u64 (rot x7 32))) g) := ⟨Trn.set hKd hg0.out 2 (.int .u64 (rot x7 32))⟩
      clear hB hKd
      repeat still_step
      still_call (rotD32 _ _)
      repeat still_step
      refine wpStill_nil ?_
      go_wp2
      clear hc0 hf0 hc1 hf1 hc2 hf2 hc3 hf3
      generalize wd9.setCell ⟨g, 2, none⟩ (.int .u64 (rot x7 32)) = wv9 at hA9 hK9 ⊢
      obtain ⟨x9, hx⟩ : ∃ x, x = rot x7 32 := ⟨_, rfl⟩
      have hx9 := Aside0.mk hx
      have hq := hA9.out
      clear hA9
      rw [← hx] at hq
      have hA9 := Aside0.mk hq
      clear hq hx
      go_roundw
      case rel => exact ⟨i + 1, by go_num, ⟨by omega⟩, ⟨by
        rw [hA9.out]
        simp only [sipRounds, ← hS.out, sipOne, cellsOf, hx0.out, hx1.out, hx2.out, hx3.out, hx4.out, hx5.out, hx6.out, hx7.out, hx8.out, hx9.out]⟩, hK9⟩
      case measure => simp [intOf]; omega
    · have e : i = n := by have := hi.out; omega
      subst e
      go_wp2
      go_end0
      exact ⟨rfl, hA0.out, hK.out⟩
end Go.Proofs.Ytedpmohnnagamaa.Print
