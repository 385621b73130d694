/- Batches laid down and read back. -/
import Derived.Test.YtabkfgkpofjeoaaDoorCode0
import Derived.Test.YtabkfgkpofjeoaaDoorChange0
set_option linter.unusedVariables false
set_option linter.unusedSimpArgs false
set_option maxRecDepth 100000
namespace Go.Proofs.YtabkfgkpofjeoaaDoor.Trip0
open Go Go.Sy Go.Proofs.YtabkfgkpofjeoaaDoor.F Go.Proofs.YtabkfgkpofjeoaaDoor.Base Go.Proofs.YtabkfgkpofjeoaaDoor.Key0 Go.Proofs.YtabkfgkpofjeoaaDoor.Check0 Go.Proofs.YtabkfgkpofjeoaaDoor.Batch0 Go.Proofs.YtabkfgkpofjeoaaDoor.Mac0 Go.Proofs.YtabkfgkpofjeoaaDoor.Num0 Go.Proofs.YtabkfgkpofjeoaaDoor.Pack0 Go.Proofs.YtabkfgkpofjeoaaDoor.Data0 Go.Proofs.YtabkfgkpofjeoaaDoor.Change0 Go.Proofs.YtabkfgkpofjeoaaDoor.Read0 Go.Proofs.YtabkfgkpofjeoaaDoor.Read1 Go.Proofs.YtabkfgkpofjeoaaDoor.Unpack0 Go.Proofs.YtabkfgkpofjeoaaDoor.Code0
theorem eb_eq (e : Ev) : eb e = nb e.2.1 ++ (nb e.2.2.1 ++ (nb e.2.2.2.1 ++ (tb e.2.2.2.2.1 ++ (tb e.2.2.2.2.2.1 ++ (tb e.2.2.2.2.2.2.1 ++ (nb e.2.2.2.2.2.2.2.1 ++ (nb e.2.2.2.2.2.2.2.2.1 ++ nb e.2.2.2.2.2.2.2.2.2.1))))))) := by
  unfold eb
  simp only [List.flatMap_cons, List.flatMap_nil, List.append_nil, List.append_assoc]
theorem evS_fwd {e : Ev} (h : Fit e) (rest : List Int) : evS e.1 (eb e ++ rest, 0) = (e, (rest, 0)) := by
  obtain ⟨c, q, kd, t, i, n, o, a, b, m, _⟩ := e
  have h1 : R64 q := h.n q (by simp)
  have h2 : R64 kd := h.n kd (by simp)
  have h3 : R64 t := h.n t (by simp)
  have h4 : R64 a := h.m a (by simp)
  have h5 : R64 b := h.m b (by simp)
  have h6 : R64 m := h.m m (by simp)
  have s1 : i.size ≤ 32 := h.t i (by simp)
  have s2 : n.size ≤ 32 := h.t n (by simp)
  have s3 : o.size ≤ 32 := h.t o (by simp)
  unfold evS
  rw [eb_eq]
  simp only [List.append_assoc]
  rw [numS_fwd h1]
  simp only
  rw [numS_fwd h2]
  simp only
  rw [numS_fwd h3]
  simp only
  rw [txtS_fwd s1]
  simp only
  rw [txtS_fwd s2]
  simp only
  rw [txtS_fwd s3]
  simp only
  rw [numS_fwd h4]
  simp only
  rw [numS_fwd h5]
  simp only
  rw [numS_fwd h6]
theorem evsS_fwd (c : ByteArray) (rest : List Int) : ∀ (es : List Ev) (acc : List Ev), (∀ e ∈ es, Fit e ∧ e.1 = c) → evsS c es.length (es.flatMap eb ++ rest, 0) acc = (acc ++ es, (rest, 0))
  | [], acc, _ => by simp [evsS]
  | e :: es, acc, h => by
    have he := h e (by simp)
    show evsS c (es.length + 1) _ _ = _
    rw [evsS, List.flatMap_cons, List.append_assoc]
    have := evS_fwd he.1 (es.flatMap eb ++ rest)
    rw [he.2] at this
    rw [this]
    simp only
    rw [evsS_fwd c rest es _ (fun x hx => h x (by simp [hx])), List.append_assoc]
    rfl
theorem readB_fwd {b : Bt} (h : FitB b) (hc : ∀ e ∈ b.2.2.1, e.1 = b.1) : readB (body b) = (b, ([], 0)) := by
  obtain ⟨c, m, es, _⟩ := b
  have h1 : c.size ≤ 32 := h.k
  have h2 : R64 m := h.s
  have h3 : es.length ≤ 32 := h.l
  unfold readB body
  simp only [List.append_assoc]
  rw [txtS_fwd h1]
  simp only
  rw [numS_fwd h2]
  simp only
  have e : cntS (nb (es.length : Int) ++ es.flatMap eb, 0) = ((es.length : Int), (es.flatMap eb, 0)) := by
    unfold cntS
    rw [numS_fwd ⟨by omega, by omega⟩]
    simp only
    rw [show ((0 : Int) != 0) = false from rfl, decide_eq_false (by omega : ¬ (es.length : Int) < 0), decide_eq_false (by omega : ¬ (es.length : Int) > 32)]
    rfl
  rw [e]
  simp only [Int.toNat_natCast]
  have := evsS_fwd c [] es [] (fun e he => ⟨h.e e he, hc e he⟩)
  rw [List.append_nil] at this
  rw [this]
  rfl
theorem same_key {b : Bt} (hc : chkB b = 0) : ∀ e ∈ b.2.2.1, e.1 = b.1 := by
  obtain ⟨_, _, h⟩ := chk_zero hc
  intro e he
  obtain ⟨i, hi, rfl⟩ := List.getElem_of_mem he
  have := (step_zero (h i hi)).2
  rw [getD_at hi] at this
  exact seq_iff.1 this
theorem word_len (w : Int) : (word w).length = 8 := rfl
theorem front_app (l : List Int) (w : Int) : front (l ++ word w) = l := by
  unfold front
  rw [List.length_append, word_len, Nat.add_sub_cancel, List.take_left']
  rfl
theorem back_app (l : List Int) (w : Int) : (l ++ word w).drop ((l ++ word w).length - 8) = word w := by
  rw [List.length_append, word_len, Nat.add_sub_cancel, List.drop_left']
  rfl
theorem unpack_sealed (k : Int) (l : List Int) : Unpack0.unpack k (l ++ word (mac k l)) = Unpack0.read l := by
  unfold Unpack0.unpack
  rw [front_app, back_app, seq_refl, decide_eq_false (by rw [List.length_append, word_len]; omega : ¬ ((l ++ word (mac k l)).length : Int) < 8)]
  rfl
theorem read_body {b : Bt} (hn : NumsB b) (hc : chkB b = 0) : Unpack0.read (body b) = (b, 0, ()) := by
  unfold Unpack0.read
  rw [readB_fwd (FitB.of hn hc) (same_key hc)]
  rw [show endS ([], 0) = 0 from rfl]
  simp only
  rw [show ((0 : Int) != 0) = false from rfl, hc]
  rfl
/-- Backwards. -/
theorem evS_inv {c : ByteArray} {s : S} (hb : Bytes s.1) (h : (evS c s).2.2 = 0) : s.2 = 0 ∧ s.1 = eb (evS c s).1 ++ (evS c s).2.1 ∧ (evS c s).1.1 = c ∧ NumsE (evS c s).1 := by
  have step : ∀ {a b : List Int} {t : List Int}, Bytes t → t = a ++ b → Bytes b := fun h e => by rw [e] at h; exact h.right
  unfold evS at h ⊢
  simp only at h ⊢
  have b1 := hb
  have k1 : (numS s).2.2 = 0 → Bytes (numS s).2.1 := fun h => step hb (numS_inv hb h).2.1
  -- each error would have stayed
  have n0 : ∀ s : S, s.2 ≠ 0 → (numS s).2.2 ≠ 0 := fun s h => by unfold numS; rw [ne_b h]; exact h
  have t0 : ∀ s : S, s.2 ≠ 0 → (txtS s).2.2 ≠ 0 := fun s h => by unfold txtS; rw [ne_b (n0 s h)]; exact n0 s h
  have nz : ∀ s : S, (numS s).2.2 = 0 → s.2 = 0 := fun s h => Classical.byContradiction fun h' => n0 s h' h
  have tz : ∀ s : S, (txtS s).2.2 = 0 → s.2 = 0 := fun s h => Classical.byContradiction fun h' => t0 s h' h
  have e9 := h
  have e8 := nz _ e9
  have e7 := nz _ e8
  have e6 := nz _ e7
  have e5 := tz _ e6
  have e4 := tz _ e5
  have e3 := tz _ e4
  have e2 := nz _ e3
  have e1 := nz _ e2
  obtain ⟨_, i1, r1⟩ := numS_inv hb e1
  have b1 := step hb i1
  obtain ⟨_, i2, r2⟩ := numS_inv b1 e2
  have b2 := step b1 i2
  obtain ⟨_, i3, r3⟩ := numS_inv b2 e3
  have b3 := step b2 i3
  obtain ⟨_, i4⟩ := txtS_inv b3 e4
  have b4 := step b3 i4
  obtain ⟨_, i5⟩ := txtS_inv b4 e5
  have b5 := step b4 i5
  obtain ⟨_, i6⟩ := txtS_inv b5 e6
  have b6 := step b5 i6
  obtain ⟨_, i7, r7⟩ := numS_inv b6 e7
  have b7 := step b6 i7
  obtain ⟨_, i8, r8⟩ := numS_inv b7 e8
  have b8 := step b7 i8
  obtain ⟨_, i9, r9⟩ := numS_inv b8 e9
  refine ⟨nz _ e1, ?_, trivial, numsE r1 r2 r3 r7 r8 r9⟩
  rw [eb_eq]
  simp only [List.append_assoc]
  rw [← i9, ← i8, ← i7, ← i6, ← i5, ← i4, ← i3, ← i2, ← i1]
theorem evsS_inv (c : ByteArray) : ∀ k (s : S) (acc : List Ev), Bytes s.1 → (evsS c k s acc).2.2 = 0 → s.2 = 0 ∧ ∃ es : List Ev, es.length = k ∧ (evsS c k s acc).1 = acc ++ es ∧ s.1 = es.flatMap eb ++ (evsS c k s acc).2.1 ∧ ∀ e ∈ es, NumsE e
  | 0, s, acc, _, h => ⟨h, [], rfl, by simp [evsS], by simp [evsS], by simp⟩
  | k + 1, s, acc, hb, h => by
    rw [evsS] at h ⊢
    have hb' : Bytes (evS c s).2.1 := by
      by_cases h0 : (evS c s).2.2 = 0
      · have := (evS_inv hb h0).2.1
        rw [this] at hb
        exact hb.right
      · have key : ∀ k (s : S) acc, s.2 ≠ 0 → (evsS c k s acc).2.2 ≠ 0 := by
          intro k
          induction k with
          | zero => intro s acc h; exact h
          | succ k ih =>
            intro s acc h
            rw [evsS]
            apply ih
            intro h'
            have n0 : ∀ s : S, s.2 ≠ 0 → (numS s).2.2 ≠ 0 := fun s h => by unfold numS; rw [ne_b h]; exact h
            have t0 : ∀ s : S, s.2 ≠ 0 → (txtS s).2.2 ≠ 0 := fun s h => by unfold txtS; rw [ne_b (n0 s h)]; exact n0 s h
            exact n0 _ (n0 _ (n0 _ (t0 _ (t0 _ (t0 _ (n0 _ (n0 _ (n0 _ h)))))))) h'
        exact absurd h (key k _ _ h0)
    obtain ⟨h1, es, h2, h3, h4, h5⟩ := evsS_inv c k _ (acc ++ [(evS c s).1]) hb' h
    obtain ⟨g1, g2, g3, g4⟩ := evS_inv hb h1
    refine ⟨g1, (evS c s).1 :: es, by simp [h2], ?_, ?_, ?_⟩
    · rw [h3, List.append_assoc]; rfl
    · rw [List.flatMap_cons, List.append_assoc, ← h4, ← g2]
    · intro e he
      rcases List.mem_cons.1 he with rfl | he
      · exact g4
      · exact h5 e he
theorem readB_inv {l : List Int} (hb : Bytes l) (h : endS (readB l).2 = 0) : l = body (readB l).1 ∧ NumsB (readB l).1 := by
  have h2 : (readB l).2.2 = 0 ∧ (readB l).2.1 = [] := by
    unfold endS at h
    by_cases h0 : (readB l).2.2 = 0
    · refine ⟨h0, ?_⟩
      rw [h0, show ((0 : Int) == 0) = true from rfl, cond_true] at h
      by_cases h3 : ((readB l).2.1.length : Int) > 0
      · rw [decide_eq_true h3] at h; exact absurd (show (17 : Int) = 0 from h) (by decide)
      · exact List.length_eq_zero_iff.1 (by omega)
    · rw [ne_e h0] at h
      exact absurd h h0
  obtain ⟨h2, h3⟩ := h2
  have n0 : ∀ s : S, s.2 ≠ 0 → (numS s).2.2 ≠ 0 := fun s h => by unfold numS; rw [ne_b h]; exact h
  have t0 : ∀ s : S, s.2 ≠ 0 → (txtS s).2.2 ≠ 0 := fun s h => by unfold txtS; rw [ne_b (n0 s h)]; exact n0 s h
  have c0 : ∀ s : S, (numS s).2.2 ≠ 0 → (cntS s).2.2 ≠ 0 := fun s h => by unfold cntS; rw [ne_b h]; exact h
  have key : ∀ c k (s : S) acc, s.2 ≠ 0 → (evsS c k s acc).2.2 ≠ 0 := by
    intro c k
    induction k with
    | zero => intro s acc h; exact h
    | succ k ih =>
      intro s acc h
      rw [evsS]
      apply ih
      intro h'
      exact n0 _ (n0 _ (n0 _ (t0 _ (t0 _ (t0 _ (n0 _ (n0 _ (n0 _ h)))))))) h'
  have e4 : (cntS (numS (txtS (l, 0)).2).2).2.2 = 0 := Classical.byContradiction fun h' => key _ _ _ _ h' h2
  have e3 : (numS (numS (txtS (l, 0)).2).2).2.2 = 0 := Classical.byContradiction fun h' => c0 _ h' e4
  have e2 : (numS (txtS (l, 0)).2).2.2 = 0 := Classical.byContradiction fun h' => n0 _ h' e3
  have e1 : (txtS (l, 0)).2.2 = 0 := Classical.byContradiction fun h' => n0 _ h' e2
  obtain ⟨_, i1⟩ := txtS_inv (s := (l, 0)) hb e1
  have b1 : Bytes (txtS (l, 0)).2.1 := by
    have hb := hb
    rw [show l = tb (txtS (l, 0)).1 ++ (txtS (l, 0)).2.1 from i1] at hb
    exact hb.right
  obtain ⟨_, i2, r2⟩ := numS_inv b1 e2
  have b2 : Bytes (numS (txtS (l, 0)).2).2.1 := by rw [i2] at b1; exact b1.right
  obtain ⟨_, i3, r3⟩ := numS_inv b2 e3
  have b3 : Bytes (numS (numS (txtS (l, 0)).2).2).2.1 := by rw [i3] at b2; exact b2.right
  have ec : cntS (numS (txtS (l, 0)).2).2 = numS (numS (txtS (l, 0)).2).2 := by
    have hb := cntS_bd (numS (txtS (l, 0)).2).2
    unfold cntS at e4 hb ⊢
    rw [e3, show ((0 : Int) != 0) = false from rfl, cond_false] at e4 hb ⊢
    by_cases h4 : (numS (numS (txtS (l, 0)).2).2).1 < 0
    · rw [decide_eq_true h4] at e4; exact n3 e4
    rw [decide_eq_false h4] at e4 ⊢
    by_cases h5 : (numS (numS (txtS (l, 0)).2).2).1 > 32
    · rw [decide_eq_true h5] at e4; exact n5 e4
    rw [decide_eq_false h5]
    rfl
  have hcb := cntS_bd (numS (txtS (l, 0)).2).2
  have hB : readB l = (((txtS (l, 0)).1, (numS (txtS (l, 0)).2).1, (evsS (txtS (l, 0)).1 (cntS (numS (txtS (l, 0)).2).2).1.toNat (cntS (numS (txtS (l, 0)).2).2).2 []).1, ()), (evsS (txtS (l, 0)).1 (cntS (numS (txtS (l, 0)).2).2).1.toNat (cntS (numS (txtS (l, 0)).2).2).2 []).2) := rfl
  rw [ec] at hB hcb
  rw [hB] at h2 h3 ⊢
  simp only at h2 h3 ⊢
  obtain ⟨_, es, g1, g2, g3, g4⟩ := evsS_inv _ _ _ [] b3 h2
  rw [h3, List.append_nil] at g3
  rw [g2, List.nil_append]
  refine ⟨?_, r2, g4⟩
  unfold body
  simp only
  have hlen : (es.length : Int) = (numS (numS (txtS (l, 0)).2).2).1 := by rw [g1]; omega
  rw [hlen, ← g3, List.append_assoc, List.append_assoc, ← i3, ← i2]
  exact i1
end Go.Proofs.YtabkfgkpofjeoaaDoor.Trip0
