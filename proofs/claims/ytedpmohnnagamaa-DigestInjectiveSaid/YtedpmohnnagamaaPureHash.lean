/- DigestHash of the printed functions: for every key, domain and list of fields it comes to true. -/
import Derived.Test.YtedpmohnnagamaaPureDig
namespace Go.Proofs.Ytedpmohnnagamaa.PureHash
open Go.RowKit Go.Proofs.Ytedpmohnnagamaa.Print Go.Proofs.Ytedpmohnnagamaa.PureDig Go.Proofs.YtedpmohnnagamaaW.PrintWords Go.Proofs.YtedpmohnnagamaaW.PrintLast
def cutOf (l : List (List Int)) : List (List Int) := (l.take 20).map (·.take 300)
set_option linter.unusedVariables false
theorem set_mid {α : Type} (A : List α) (z v : α) (n i : Nat) (hn : A.length = n) (hi : i < n) (hv : A[i]? = some v) : (A.take i ++ List.replicate (n - i) z).set i v = A.take (i + 1) ++ List.replicate (n - (i + 1)) z := by
  have e : n - i = (n - (i + 1)) + 1 := by omega
  have hl : (A.take i).length = i := by simp; omega
  obtain ⟨h, rfl⟩ := List.getElem?_eq_some_iff.1 hv
  rw [e, List.replicate_succ, List.set_append, if_neg (by omega), hl, Nat.sub_self, List.set_cons_zero, List.take_succ_eq_append_getElem h, List.append_assoc]
  rfl
theorem cut_l0 (x0 : List (List Int)) (hx : x0.length ≤ 20) : ∀ (d i : Nat), x0.length - i = d → i ≤ x0.length →
    Ev (fun k => flagstonelaw2_cut.l0 k x0 ((x0.map (·.take 300)).take i ++ List.replicate (x0.length - i) []) (i : Int)) (x0.map (·.take 300)) := by
  intro d
  induction d with
  | zero =>
    intro i hd hi
    obtain rfl : i = x0.length := by omega
    refine Ev.step (f := fun _ => some (x0.map (·.take 300))) (fun k => ?_) (Ev.now _)
    simp only [flagstonelaw2_cut.l0]
    rw [if_neg (by omega), Nat.sub_self, List.take_of_length_le (by simp)]
    simp
  | succ d ih =>
    intro i hd hi
    have hlt : i < x0.length := by omega
    have er : rd_L1 x0 (i : Int) = x0[i] := by simp [rd_L1, List.getD, hlt]
    have hs := set_mid (x0.map (·.take 300)) ([] : List Int) (x0[i].take 300) x0.length i (by simp) hlt (by simp [hlt])
    have h := ih (i + 1) (by omega) (by omega)
    rw [← hs] at h
    refine Ev.step (fun k => ?_) h
    simp only [flagstonelaw2_cut.l0]
    have hl3 : ((x0.map (·.take 300)).take i ++ List.replicate (x0.length - i) ([] : List Int)).length = x0.length := by simp; omega
    rw [if_pos (by omega), if_pos (by omega), if_pos (by rw [hl3]; omega), er, Option.bind_some, w64 (by omega) (by omega), Int.toNat_natCast, show ((i : Int) + 1) = ((i + 1 : Nat) : Int) by omega]
    by_cases h3 : ((x0[i].length : Nat) : Int) > 300
    · rw [if_pos h3, if_pos (by omega), List.set_set]
    · rw [if_neg h3, List.take_of_length_le (i := 300) (by omega)]
theorem cut_ev (l : List (List Int)) : Ev (fun k => flagstonelaw2_cut.f k l) (cutOf l) := by
  have hj : ∀ x0 : List (List Int), x0.length ≤ 20 → Ev (fun k => flagstonelaw2_cut.j0 k x0) (x0.map (·.take 300)) := fun x0 hx => by
    have := cut_l0 x0 hx x0.length 0 (by omega) (by omega)
    refine Ev.step (fun k => ?_) this
    simp only [flagstonelaw2_cut.j0]
    rw [if_pos (by omega), if_pos (by omega)]
    simp
  unfold flagstonelaw2_cut.f cutOf
  by_cases h : (l.length : Int) > 20
  · refine Ev.congr (fun k => ?_) (hj (l.take 20) (by simp; omega))
    rw [if_pos h, if_pos (by omega)]
  · refine Ev.congr (fun k => ?_) (hj (l.take 20) (by simp; omega))
    rw [if_neg h, List.take_of_length_le (i := 20) (by omega)]
theorem flat_len {α : Type} (f : α → List Int) (B : Nat) : ∀ l : List α, (∀ x ∈ l, (f x).length ≤ B) → (l.flatMap f).length ≤ l.length * B
  | [], _ => by simp
  | x :: l, h => by
    have h1 := h x (by simp)
    have h2 := flat_len f B l (fun y hy => h y (by simp [hy]))
    rw [List.flatMap_cons, List.length_append, List.length_cons, Nat.add_mul]
    omega
theorem frame_len (l : List (List Int)) (hl : l.length ≤ 40) (hi : ∀ x ∈ l, x.length ≤ 10000) : (frameOf l).length ≤ 400320 := by
  have := flat_len (fun f : List Int => be8 (f.length : Int) ++ f) 10008 l (fun x hx => by have := hi x hx; simp [be8]; omega)
  unfold frameOf
  omega
theorem cut_bd (l : List (List Int)) : (cutOf l).length ≤ 20 ∧ ∀ x ∈ cutOf l, x.length ≤ 300 := by
  unfold cutOf
  refine ⟨by simp; omega, fun x hx => ?_⟩
  obtain ⟨y, _, rfl⟩ := List.mem_map.1 hx
  simp; omega
theorem cut_frame (l : List (List Int)) : (frameOf (cutOf l)).length ≤ 400320 := frame_len _ (by have := (cut_bd l).1; omega) (fun x hx => by have := (cut_bd l).2 x hx; omega)
theorem hash_ev (a1 : Int) (l : List (List Int)) (h : l.length < 9223372036854775807) (hl : (frameOf l).length < 140737488355328) : Ev (fun k => digest_Hash.f k a1 l) (sipSum a1 0 (frameOf l)) := by
  unfold digest_Hash.f
  refine Ev.bind (frame_ev l h hl) ?_
  simp only [sum_f _ (show (frameOf l).length ≤ 140737488355328 by omega), Option.bind_some]
  exact Ev.now _
theorem mac_ev (a0 a1 : Int) (l : List (List Int)) (h : l.length < 9223372036854775807) (hl : (frameOf l).length < 140737488355328) : Ev (fun k => digest_Mac.f k a0 a1 l) (sipSum a0 (IntKind.u64.wrap (a1 + 1)) (frameOf l)) := by
  unfold digest_Mac.f
  refine Ev.bind (frame_ev l h hl) ?_
  simp only [sum_f _ (show (frameOf l).length ≤ 140737488355328 by omega), Option.bind_some]
  exact Ev.now _
theorem rhash_ev (a1 : Int) (l : List (List Int)) (h : l.length < 9223372036854775807) (hl : (frameOf l).length < 140737488355328) : Ev (fun k => flagstoneref2_Hash.f k a1 l) (sipSum a1 0 (frameOf l)) := by
  unfold flagstoneref2_Hash.f
  exact Ev.bind (rframe_ev l h hl) (Ev.bind (rsum_ev (frameOf l) (by omega) _ _) (Ev.now _))
theorem rmac_ev (a0 a1 : Int) (l : List (List Int)) (h : l.length < 9223372036854775807) (hl : (frameOf l).length < 140737488355328) : Ev (fun k => flagstoneref2_Mac.f k a0 a1 l) (sipSum a0 (IntKind.u64.wrap (a1 + 1)) (frameOf l)) := by
  unfold flagstoneref2_Mac.f
  exact Ev.bind (rframe_ev l h hl) (Ev.bind (rsum_ev (frameOf l) (by omega) _ _) (Ev.now _))
theorem hash_true (a0 a1 : Int) (l : List (List Int)) : Ev (fun k => flagstonelaw2_DigestHash.f k a0 a1 l) true := by
  have hf := cut_frame l
  have hb := (cut_bd l).1
  unfold flagstonelaw2_DigestHash.f
  refine Ev.bind awake_ev ?_
  simp only [if_true]
  refine Ev.bind (cut_ev l) (Ev.bind (hash_ev _ _ (by omega) (by omega)) (Ev.bind (rhash_ev _ _ (by omega) (by omega)) ?_))
  simp only [if_true]
  refine Ev.bind (mac_ev _ _ _ (by omega) (by omega)) (Ev.bind (rmac_ev _ _ _ (by omega) (by omega)) ?_)
  simp only [if_true]
  refine Ev.bind (hash_ev _ _ (by omega) (by omega)) (Ev.bind (frame_ev _ (by omega) (by omega)) ?_)
  simp only [sum_f _ (show (frameOf (cutOf l)).length ≤ 140737488355328 by omega), Option.bind_some, beq_self_eq_true]
  exact Ev.now _
theorem walk (a0 a1 : Int) (A : Option Addr) (c : Nat) (l : List (List Int)) (w : World) (w0 : (Lit.int .u64 a0).wf = true) (w1 : (Lit.int .u64 a1).wf = true) (hC : Kd.C (Kd.slice 5 (Kd.int .u8)) w A l.length l) (hc : l.length ≤ c) (hw : l.length ≤ maxLen ∧ ∀ x ∈ l, x.length ≤ maxLen ∧ ∀ y ∈ x, (Lit.int .u8 y).wf = true) :
    Calls Try.prog 7 #[.int .u64 a0, .int .u64 a1, .slice A l.length c] w fun e w' => e = .returned (.bool true) ∧ Below w.heap.size w w' := by
  obtain ⟨k, hk⟩ := (hash_true a0 a1 l).rounds
  exact flagstonelaw2_DigestHash.calls k a0 a1 A c l true w hC hc hk
end Go.Proofs.Ytedpmohnnagamaa.PureHash
