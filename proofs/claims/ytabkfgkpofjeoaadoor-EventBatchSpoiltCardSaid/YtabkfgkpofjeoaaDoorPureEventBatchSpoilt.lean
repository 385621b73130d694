/- EventBatchSpoilt over plain values: Pack and CheckBatch of a changed batch are the document's. -/
import Derived.Test.YtabkfgkpofjeoaaDoorChange0
set_option linter.unusedVariables false
namespace Go.Proofs.YtabkfgkpofjeoaaDoor.PureEventBatchSpoilt
open Go Go.Sy Go.Proofs.YtabkfgkpofjeoaaDoor.F Go.Proofs.YtabkfgkpofjeoaaDoor.Base Go.Proofs.YtabkfgkpofjeoaaDoor.Key0 Go.Proofs.YtabkfgkpofjeoaaDoor.Check0 Go.Proofs.YtabkfgkpofjeoaaDoor.Batch0 Go.Proofs.YtabkfgkpofjeoaaDoor.Pack0 Go.Proofs.YtabkfgkpofjeoaaDoor.Data0 Go.Proofs.YtabkfgkpofjeoaaDoor.Change0
theorem aw : law28_awake_C () = some (true, ()) := by kernel_rfl
structure FineB (b : Bt) : Prop where
  s : SizesB b
  n : NumsB b
theorem imax1 {n : Nat} : (imax 1 (n : Int) != 0) = true := by unfold imax; split <;> simp <;> omega
theorem place {evs : List Ev} {n : Int} (h0 : 0 ≤ n) (h1 : n < 256) (hl : 0 < evs.length) : ∃ i : Nat, i < evs.length ∧ Int.tmod (IntKind.wrap .i64 n) (imax 1 (evs.length : Int)) = (i : Int) := by
  have e : imax 1 (evs.length : Int) = (evs.length : Int) := by unfold imax; split <;> omega
  rw [e]
  exact evs_at h0 h1 (by omega)
abbrev St9 : Type := (Unit × Unit) × (((ByteArray × (Int × (Unit × Unit))) × Unit) × (List Ev × Unit))
def Q9 (s : St9) : Prop := FineB (s.2.1.1.1, s.2.1.1.2.1, s.2.2.1, s.2.1.1.2.2.2)
theorem true_ (l : List Int) (n1 n2 n3 n4 n5 n6 : Int) (s : ByteArray) (hl : Wf (.slr (.int .u8)) l) (h1 : Wf (.int .u8) n1) (h2 : Wf (.int .u8) n2) (h3 : Wf (.int .u8) n3) (h4 : Wf (.int .u8) n4) (h5 : Wf (.int .u8) n5) (h6 : Wf (.int .i64) n6) (hs : Wf .str s) : law28_EventBatchSpoilt_C (l, n1, n2, n3, n4, n5, n6, s, ()) = some (true, ()) := by
  apply Ret.true_
  unfold law28_EventBatchSpoilt_C law28_EventBatchSpoilt_F
  rw [aw, Option.bind_some]
  simp only [Bool.not_true, cond_false]
  have h1 := u8_of h1
  have h2 := u8_of h2
  have h3 := u8_of h3
  have h5 := u8_of h5
  have h6 := r64_of h6
  have hs : s.size ≤ maxLen := hs
  apply Ret.cond
  · intro _; exact Ret.some rfl
  intro _
  refine Ret.bind (batch_ok (okS_of hl) h1.1 h2) ?_
  rintro ⟨⟨c, m, evs, _⟩, _⟩ hst
  simp only at hst ⊢
  rw [event_CheckBatch_eq _ hst.s, Option.bind_some, hst.c]
  simp only
  rw [show ((0 : Int) != 0) = false from rfl, cond_false]
  have hlen : evs.length ≤ 32 := hst.m
  have hfb : FineB (c, m, evs, ()) := ⟨hst.s, hst.n⟩
  have hm : R64 m := hst.n.s
  have hck : c.size ≤ maxLen := hst.s.k
  have hfe : ∀ e ∈ evs, Fine e := fun e he => ⟨hst.s.e e he, hst.n.e e he⟩
  have mk : ∀ {c' : ByteArray} {m' : Int} {es : List Ev}, c'.size ≤ maxLen → R64 m' → (∀ e ∈ es, Fine e) → FineB (c', m', es, ()) := fun a b c => ⟨⟨a, fun e he => (c e he).s⟩, ⟨b, fun e he => (c e he).n⟩⟩
  refine Ret.guard imax1 ?_
  refine Ret.bind (Q := Q9) ?_ ?_
  · apply Ret.cond
    · intro _
      refine Ret.bind (limits_ok h5.1 h6) ?_
      rintro ⟨v, _⟩ hv
      exact Ret.some (mk hck hv hfe)
    intro _
    apply Ret.cond
    · intro _
      exact Ret.some (mk hs hm hfe)
    intro _
    apply Ret.cond
    · intro _
      apply Ret.cond
      · intro h0
        have h0 : 0 < evs.length := by simpa using h0
        obtain ⟨i, hi, ei⟩ := place h3.1 h3.2 h0
        rw [ei]
        refine Ret.guard (inb_true hi) (Ret.guard (inb_true hi) ?_)
        rw [Int.toNat_natCast, getD_at hi]
        refine Ret.guard (Num0.roomy_of (by simp only [List.length_singleton]; omega)) (Ret.some (mk hck hm ?_))
        intro e he
        rcases List.mem_append.1 he with he | he
        · exact hfe e he
        · rw [List.mem_singleton.1 he]; exact hfe _ (List.getElem_mem hi)
      · intro _
        exact Ret.some (mk hck hm hfe)
    intro _
    apply Ret.cond
    · intro _
      refine Ret.bind (Q := Q9) (Ret.iter (fun x : St9 => ∃ es : List Ev, x = (((), ()), ((c, m, (), ()), ()), es, ()) ∧ (∀ e ∈ es, Fine e) ∧ (∀ e ∈ es, e.2.1 ≤ 1000000000 + (es.length : Int)) ∧ es.length ≤ 33) (fun x => 33 - x.2.2.1.length) ?_ 50 _ 100 ?_ (by simp only; omega) (by omega)) ?_
      · rintro _ self ⟨es, rfl, hf, hq, hle⟩ hself
        simp only
        apply Ret.cond
        · intro hc
          cases h7 : decide ((es.length : Int) > 0)
          · rw [h7] at hc; cases hc
          rw [h7, cond_true, decide_eq_true_eq] at hc
          rw [decide_eq_true_eq] at h7
          rw [wrap_id (n := (es.length : Int) - 1) (by omega) (by omega), show (es.length : Int) - 1 = ((es.length - 1 : Nat) : Int) by omega]
          have hlt : es.length - 1 < es.length := by omega
          refine Ret.guard (inb_true hlt) (Ret.guard (inb_true hlt) ?_)
          rw [Int.toNat_natCast, getD_at hlt]
          have hfl := hf _ (List.getElem_mem hlt)
          have hql := hq _ (List.getElem_mem hlt)
          generalize es[es.length - 1] = e at hfl hql
          obtain ⟨a1, a2, a3, a4, a5, a6, a7, a8, a9, a10, _⟩ := e
          simp only at hql ⊢
          have hlo : R64 a2 := hfl.n.n a2 (by simp)
          obtain ⟨hlo1, hlo2⟩ := hlo
          rw [wrap_id (n := a2 + 1) (by omega) (by omega)]
          refine Ret.guard (Num0.roomy_of (by simp only [List.length_singleton]; omega)) ?_
          refine hself _ ⟨es ++ [(a1, a2 + 1, a3, a4, a5, a6, a7, a8, a9, a10, ())], rfl, ?_, ?_, ?_⟩ (by simp only [List.length_append, List.length_singleton]; omega)
          · intro e he
            rcases List.mem_append.1 he with he | he
            · exact hf e he
            · rw [List.mem_singleton.1 he]
              exact ⟨⟨hfl.s.c, hfl.s.i, hfl.s.n, hfl.s.o⟩, numsE ⟨by omega, by omega⟩ (hfl.n.n a3 (by simp)) (hfl.n.n a4 (by simp)) (hfl.n.m a8 (by simp)) (hfl.n.m a9 (by simp)) (hfl.n.m a10 (by simp))⟩
          · intro e he
            rw [List.length_append, List.length_singleton]
            rcases List.mem_append.1 he with he | he
            · have := hq e he; omega
            · rw [List.mem_singleton.1 he]; simp only; omega
          · rw [List.length_append, List.length_singleton]; omega
        · intro _
          exact Ret.some (mk hck hm hf)
      · refine ⟨evs, rfl, hfe, ?_, by omega⟩
        intro e he
        have := hst.q e he
        omega
      · rintro ⟨_, ⟨⟨c', m', _, _⟩, _⟩, es, _⟩ hq
        exact Ret.some hq
    intro _
    apply Ret.cond
    · intro h0
      have h0 : 0 < evs.length := by simpa using h0
      obtain ⟨i, hi, ei⟩ := place h3.1 h3.2 h0
      rw [ei]
      refine Ret.guard (inb_true hi) (Ret.guard (inb_true hi) ?_)
      rw [Int.toNat_natCast, getD_at hi]
      refine Ret.bind (limits_ok h5.1 h6) ?_
      rintro ⟨v, _⟩ hv
      simp only at hv ⊢
      refine Ret.bind (change_ok (hfe _ (List.getElem_mem hi)) hv hs) ?_
      rintro ⟨⟨a1, a2, a3, a4, a5, a6, a7, a8, a9, a10, _⟩, _⟩ hf1
      simp only at hf1 ⊢
      refine Ret.guard (inb_true hi) (Ret.guard (inb_true hi) (Ret.some (mk hck hm ?_)))
      intro e he
      rcases List.mem_or_eq_of_mem_set he with he | rfl
      · exact hfe e he
      · exact hf1
    · intro _
      exact Ret.some (mk hck hm hfe)
  · rintro ⟨_, ⟨⟨c', m', _, _⟩, _⟩, es, _⟩ hq
    have hq : FineB (c', m', es, ()) := hq
    simp only
    rw [event_Pack_eq 1 _ hq.s hq.n, ref28_Pack_eq 1 _ hq.s hq.n, event_CheckBatch_eq _ hq.s, ref28_CheckBatch_eq _ hq.s]
    simp only [Option.bind_some, beq_self_eq_true, cond_true, seq_refl]
    exact Ret.some rfl
end Go.Proofs.YtabkfgkpofjeoaaDoor.PureEventBatchSpoilt
