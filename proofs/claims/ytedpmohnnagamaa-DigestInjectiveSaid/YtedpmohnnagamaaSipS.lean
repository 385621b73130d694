/- The contract of digest.Sum, for every slice of at most 2^47 bytes. -/
import Derived.Test.YtedpmohnnagamaaSipW
import Derived.StillTailTactics
import Derived.RegionTactic
namespace Go.Proofs.Ytedpmohnnagamaa.Print
open Go.RowKit Go.Proofs.YtedpmohnnagamaaW.PrintWords Go.Proofs.YtedpmohnnagamaaW.PrintLast Go.Proofs.YtedpmohnnagamaaW.PrintMore
set_option linter.unusedVariables false
set_option linter.unusedSimpArgs false

/-- The bytes from i on, least significant first, laid over n0. -/
def bytesIn (l : List Int) (i : Nat) (n0 : Int) : Nat → Int
  | 0 => n0
  | k + 1 => Go.bits .or .u64 (bytesIn l i n0 k) (IntKind.u64.wrap (IntKind.u64.wrap (rd l ((i + k : Nat) : Int)) * 2 ^ (8 * k)))
def sipBlocks (l : List Int) (s : Int × Int × Int × Int) : Nat → Int × Int × Int × Int
  | 0 => s
  | j + 1 => sipWord (bytesIn l (8 * j) 0 8) (sipBlocks l s j)
def sipInit (k0 k1 : Int) : Int × Int × Int × Int := (Go.bits .xor .u64 k0 8317987319222330741, Go.bits .xor .u64 k1 7237128888997146477, Go.bits .xor .u64 k0 7816392313619706465, Go.bits .xor .u64 k1 8387220255154660723)
def sipEnd (t : Int × Int × Int × Int) : Int :=
  let u := sipRounds 4 (t.1, t.2.1, Go.bits .xor .u64 t.2.2.1 255, t.2.2.2)
  Go.bits .xor .u64 (Go.bits .xor .u64 (Go.bits .xor .u64 u.1 u.2.1) u.2.2.1) u.2.2.2
/-- SipHash-2-4. -/
def sipSum (k0 k1 : Int) (l : List Int) : Int :=
  sipEnd (sipWord (bytesIn l (l.length - l.length % 8) (IntKind.u64.wrap ((l.length : Int) * 72057594037927936)) (l.length % 8)) (sipBlocks l (sipInit k0 k1) (l.length / 8)))
set_option maxHeartbeats 4000000 in
set_option maxRecDepth 100000 in
theorem sum_calls (k0 k1 : Int) (A : Option Addr) (c : Nat) (l : List Int) (w : World) (hr : Kd.C (Kd.int .u8) w A l.length l) (hc : l.length ≤ c) (hl : l.length ≤ 140737488355328) :
    Calls Try.prog 9 #[.int .u64 k0, .int .u64 k1, .slice A l.length c] w fun e w' => e = .returned (.int .u64 (sipSum k0 k1 l)) ∧ Below w.heap.size w w' := by
  have HR := Aside0.mk hr
  have hu := Try.underlying37
  clear hr hc
  go_enter Try.func9, Try.ntmps9
  go_wp2
  obtain ⟨g, hg⟩ : ∃ g, g = w.heap.size := ⟨_, rfl⟩
  have hg0 : Aside0 (w.heap.size ≤ g) := ⟨by omega⟩
  have h1 : Aside0 ((w.alloc (Obj.cells (cellsOf (sipInit k0 k1)) 37)).heap[g]? = some (.cells (cellsOf (sipInit k0 k1)) 37 (0, 0))) := ⟨by rw [hg]; exact heap_alloc_new w _⟩
  have h3 : Aside0 (Below w.heap.size w (w.alloc (Obj.cells (cellsOf (sipInit k0 k1)) 37))) := ⟨below_alloc (Below.refl _ _) _⟩
  rw [← hg]
  change Code.wp _ _ _ _ (w.alloc (Obj.cells (cellsOf (sipInit k0 k1)) 37))
  generalize w.alloc (Obj.cells (cellsOf (sipInit k0 k1)) 37) = wz at h1 h3 ⊢
  clear hg
  go_loopw [9] (fun v wr => ∃ j : Nat, v = .int .i64 ((8 * j : Nat) : Int) ∧ Aside0 (j ≤ l.length / 8) ∧ Aside0 (wr.heap[g]? = some (.cells (cellsOf (sipBlocks l (sipInit k0 k1) j)) 37 (0,0))) ∧ Aside0 (Below w.heap.size w wr)) (fun v _ => l.length - (intOf v).toNat)
  case atStart => exact ⟨0, by simp, ⟨Nat.zero_le _⟩, h1, h3⟩
  case round =>
    obtain ⟨j, rfl, hj, hA, hB⟩ := hrel
    clear h1 h3
    by_cases hlt : j < l.length / 8
    · have hj8 : 8 * j + 8 ≤ l.length := by omega
      go_wp2
      go_loop [10, 33] (fun m kk => ∃ k : Nat, kk = .int .i64 (k : Int) ∧ m = .int .u64 (bytesIn l (8 * j) 0 k) ∧ Aside0 (k ≤ 8)) (fun _ kk => 8 - (intOf kk).toNat)
      case atStart => exact ⟨0, rfl, rfl, ⟨by omega⟩⟩
      case round =>
        obtain ⟨k, rfl, rfl, hk⟩ := hrel
        by_cases hlk : k < 8
        · obtain ⟨ad, e, hx⟩ := Kd.at_int HR.out ((8 * j + k : Nat) : Int) (by omega) (by omega)
          cases e
          rw [Int.toNat_natCast] at hx
          replace hx := (hB.out.cell (World.block_lt_of_cell? w _ hx)).trans hx
          go_wp2
          go_round
          case rel => exact ⟨k + 1, by go_num, by simp only [bytesIn]; push_cast; rfl, ⟨by omega⟩⟩
          case measure => simp [intOf]; omega
        · have e : k = 8 := by have := hk.out; omega
          subst e
          go_wp2_with ((go_at_call 18; refine (word_calls g (sipBlocks l (sipInit k0 k1) j) (bytesIn l (8 * j) 0 8) w _ hA.out hg0.out hB.out).mono ?_; clear hA hB; rintro e w2 ⟨rfl, hA1, hK1⟩; have hA := Aside0.mk hA1; have hB := Aside0.mk hK1.2; clear hA1 hK1))
          go_roundw
          case rel => exact ⟨j + 1, by go_num, ⟨by omega⟩, hA, hB⟩
          case measure => simp [intOf]; omega
    · have e : j = l.length / 8 := by have := hj.out; omega
      have hj8 : ¬ (8 * j + 8 ≤ l.length) := by omega
      have hJ := Aside0.mk e
      have hjb : 8 * j ≤ l.length := by omega
      clear e hlt
      go_wp2
      go_loop [8, 54] (fun m kk => ∃ k : Nat, kk = .int .i64 (k : Int) ∧ m = .int .u64 (bytesIn l (l.length - l.length % 8) (IntKind.u64.wrap ((l.length : Int) * 72057594037927936)) k) ∧ Aside0 (k ≤ l.length % 8)) (fun _ kk => l.length % 8 - (intOf kk).toNat)
      case atStart => exact ⟨0, rfl, rfl, ⟨by omega⟩⟩
      case round =>
        obtain ⟨k, rfl, rfl, hk⟩ := hrel
        by_cases hlk : k < l.length % 8
        · obtain ⟨ad, e, hx⟩ := Kd.at_int HR.out ((l.length - l.length % 8 + k : Nat) : Int) (by omega) (by omega)
          cases e
          rw [Int.toNat_natCast] at hx
          replace hx := (hB.out.cell (World.block_lt_of_cell? w _ hx)).trans hx
          go_wp2
          go_round
          case rel => exact ⟨k + 1, by go_num, by simp only [bytesIn]; push_cast [Nat.mod_le]; rfl, ⟨by omega⟩⟩
          case measure => simp [intOf]; omega
        · have e : k = l.length % 8 := by have := hk.out; omega
          have HE := Aside0.mk e
          clear e hlk
          obtain ⟨m, hm⟩ : ∃ m, m = bytesIn l (l.length - l.length % 8) (IntKind.u64.wrap ((l.length : Int) * 72057594037927936)) k := ⟨_, rfl⟩
          obtain ⟨s, hs⟩ : ∃ s, s = sipBlocks l (sipInit k0 k1) j := ⟨_, rfl⟩
          have HS : Aside0 (sipSum k0 k1 l = sipEnd (sipWord m s)) := ⟨by rw [hm, hs, HE.out, hJ.out]; rfl⟩
          have hlk : ¬ ((k : Int) < (l.length : Int) % 8) := by have := HE.out; omega
          rw [← hs] at hA
          rw [← hm]
          clear hm hs
          go_wp2_with (first | (go_at_call 18; refine (word_calls g s m w _ hA.out hg0.out hB.out).mono ?_; clear hA hB; rintro e w2 ⟨rfl, hA1, hK1⟩; obtain ⟨⟨a, b, c1, d⟩, ht⟩ : ∃ t, t = sipWord m s := ⟨_, rfl⟩; rw [← ht] at hA1; have HT := Aside0.mk ht; clear ht; have hB := Aside0.mk hK1.2; clear hK1; have hc2 : w2.cell? ⟨g, 2, none⟩ = some (.int .u64 c1) := (blk_cell hA1 2).trans rfl; have hf2 := blk_frozen hA1 2; have hA2 : Aside0 ((w2.setCell ⟨g, 2, none⟩ (.int .u64 (Go.bits .xor .u64 c1 255))).heap[g]? = some (.cells (cellsOf (a, b, Go.bits .xor .u64 c1 255, d)) 37 (0, 0))) := ⟨blk_put hA1 2 _ rfl⟩; have hB2 : Aside0 (Below w.heap.size w (w2.setCell ⟨g, 2, none⟩ (.int .u64 (Go.bits .xor .u64 c1 255)))) := ⟨below_set hB.out hg0.out⟩; clear hA1 hB) | (go_at_call 19; refine (rounds_calls g (a, b, Go.bits .xor .u64 c1 255, d) 4 w _ hA2.out hg0.out hB2.out (by omega)).mono ?_; clear hA2 hB2 hc2 hf2; rintro e w3 ⟨rfl, hA3, hK3⟩; obtain ⟨⟨p, q, x, y⟩, ht⟩ : ∃ t, t = sipRounds 4 (a, b, Go.bits .xor .u64 c1 255, d) := ⟨_, rfl⟩; rw [← ht] at hA3; have HU := Aside0.mk ht; clear ht; have hB3 := Aside0.mk hK3.2; clear hK3; have hd0 : w3.cell? ⟨g, 0, none⟩ = some (.int .u64 p) := (blk_cell hA3 0).trans rfl; have hd1 : w3.cell? ⟨g, 1, none⟩ = some (.int .u64 q) := (blk_cell hA3 1).trans rfl; have hd2 : w3.cell? ⟨g, 2, none⟩ = some (.int .u64 x) := (blk_cell hA3 2).trans rfl; have hd3 : w3.cell? ⟨g, 3, none⟩ = some (.int .u64 y) := (blk_cell hA3 3).trans rfl; clear hA3))
          go_ret
          exact ⟨by show Ending.returned (.int .u64 (Go.bits .xor .u64 (Go.bits .xor .u64 (Go.bits .xor .u64 p q) x) y)) = _; rw [HS.out, ← HT.out]; simp only [sipEnd, ← HU.out], hB3.out⟩
end Go.Proofs.Ytedpmohnnagamaa.Print
