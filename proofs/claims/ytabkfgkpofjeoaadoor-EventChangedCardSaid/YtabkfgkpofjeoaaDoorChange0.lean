/- law28.limits, law28.change, law28.batch. -/
import Derived.Test.YtabkfgkpofjeoaaDoorData0
set_option linter.unusedVariables false
set_option linter.unusedSimpArgs false
set_option maxRecDepth 100000
namespace Go.Proofs.YtabkfgkpofjeoaaDoor.Change0
open Go Go.Sy Go.Proofs.YtabkfgkpofjeoaaDoor.F Go.Proofs.YtabkfgkpofjeoaaDoor.Base Go.Proofs.YtabkfgkpofjeoaaDoor.Key0 Go.Proofs.YtabkfgkpofjeoaaDoor.Check0 Go.Proofs.YtabkfgkpofjeoaaDoor.Batch0 Go.Proofs.YtabkfgkpofjeoaaDoor.Pack0 Go.Proofs.YtabkfgkpofjeoaaDoor.Data0
theorem Ret.true_ {o : Option (Bool × Unit)} (h : Ret (fun r => r.1 = true) o) : o = some (true, ()) := by
  obtain ⟨⟨a, _⟩, e, ha⟩ := h
  simp only at ha
  rw [e, ha]
structure Fine (e : Ev) : Prop where
  s : Sizes e
  n : NumsE e
theorem good_fine {e : Ev} (h : Data0.Good e) : Fine e := ⟨h.s, h.n⟩
theorem u8_of {x : Int} (h : Wf (.int .u8) x) : 0 ≤ x ∧ x < 256 := by
  have h' : (decide (IntKind.min .u8 ≤ x) && decide (x ≤ IntKind.max .u8)) = true := h
  rw [Bool.and_eq_true, decide_eq_true_eq, decide_eq_true_eq] at h'
  exact ⟨h'.1, by have : x ≤ 255 := h'.2; omega⟩
theorem okS_of {l : List Int} (h : Wf (.slr (.int .u8)) l) : OkS (l, 0, ()) :=
  ⟨h.1, fun x hx => u8_of (h.2 x hx), by simp, by simp⟩
theorem limits_ok {n v : Int} (hn : 0 ≤ n) (hv : R64 v) : Ret (fun r => R64 r.1) (law28_limits_C (n, v, ())) := by
  unfold law28_limits_C law28_limits_F
  simp only
  obtain ⟨n, rfl⟩ := Int.eq_ofNat_of_zero_le hn
  rw [show Int.tmod ((n : Nat) : Int) 14 = ((n % 14 : Nat) : Int) from rfl]
  have hl : n % 14 < [v, 0, 1, (-1), 1073741824, 1073741825, 1099511627776, 1099511627777, 1099511627776, 1099511627777, (-1099511627776), (-1099511627777), 8, 9].length := by show n % 14 < 14; omega
  refine Ret.guard (inb_true hl) (Ret.guard (inb_true hl) (Ret.some ?_))
  rw [Int.toNat_natCast]
  have key : ∀ y ∈ [v, 0, 1, (-1), 1073741824, 1073741825, 1099511627776, 1099511627777, 1099511627776, 1099511627777, (-1099511627776), (-1099511627777), 8, 9], R64 y := by
    intro y hy
    simp only [List.mem_cons, List.not_mem_nil, or_false] at hy
    rcases hy with rfl | rfl | rfl | rfl | rfl | rfl | rfl | rfl | rfl | rfl | rfl | rfl | rfl | rfl <;> first | exact hv | exact ⟨by decide, by decide⟩
  exact key _ (getD_mem hl 0)
theorem tmod5 (v : Int) : R64 (Int.tmod v 5) := by
  have h1 := Int.tmod_lt_of_pos v (by decide : (0 : Int) < 5)
  have h2 : -5 < Int.tmod v 5 := by
    have := Int.tmod_lt_of_pos (-v) (by decide : (0 : Int) < 5)
    rw [Int.neg_tmod] at this
    omega
  exact ⟨by omega, by omega⟩
theorem change_ok {e : Ev} {k v : Int} {s : ByteArray} (he : Fine e) (hv : R64 v) (hs : s.size ≤ maxLen) : Ret (fun r => Fine r.1) (law28_change_C (e, k, v, s, ())) := by
  obtain ⟨c, q, kd, t, i, n, o, a, b, m, _⟩ := e
  have h1 : R64 q := he.n.n q (by simp)
  have h2 : R64 kd := he.n.n kd (by simp)
  have h3 : R64 t := he.n.n t (by simp)
  have h4 : R64 a := he.n.m a (by simp)
  have h5 : R64 b := he.n.m b (by simp)
  have h6 : R64 m := he.n.m m (by simp)
  have s1 : c.size ≤ maxLen := he.s.c
  have s2 : i.size ≤ maxLen := he.s.i
  have s3 : n.size ≤ maxLen := he.s.n
  have s4 : o.size ≤ maxLen := he.s.o
  unfold law28_change_C law28_change_F
  refine Ret.bind (Q := fun r => Fine r.2.1.1) ?_ (fun r hr => Ret.some hr)
  simp only
  repeat' first
    | exact Ret.some ⟨⟨by assumption, by assumption, by assumption, by assumption⟩, numsE (by assumption) (by assumption) (by assumption) (by assumption) (by assumption) (by assumption)⟩
    | exact Ret.some ⟨⟨by assumption, by assumption, by assumption, by assumption⟩, numsE (by assumption) (tmod5 v) (by assumption) (by assumption) (by assumption) (by assumption)⟩
    | (apply Ret.cond <;> intro _)
theorem evs_at {evs : List Ev} {n : Int} (h0 : 0 ≤ n) (h1 : n < 256) (hl : (evs.length : Int) ≠ 0) : ∃ i, i < evs.length ∧ Int.tmod (IntKind.wrap .i64 n) (evs.length : Int) = (i : Int) := by
  obtain ⟨n, rfl⟩ := Int.eq_ofNat_of_zero_le h0
  rw [wrap_id (by omega) (by omega)]
  exact ⟨n % evs.length, Nat.mod_lt _ (by omega), rfl⟩
theorem from_all (b : Bt) : ∀ k i, (∀ j, i ≤ j → j < i + k → stepB b j = 0) → fromB b k i = 0
  | 0, _, _ => rfl
  | k + 1, i, h => by
    rw [fromB, h i (Nat.le_refl _) (by omega)]
    exact from_all b k (i + 1) (fun j h1 h2 => h j (by omega) (by omega))
/-- A batch that stands. -/
structure Stands (b : Bt) : Prop where
  c : chkB b = 0
  s : SizesB b
  n : NumsB b
  m : b.2.2.1.length ≤ 32
  q : ∀ e ∈ b.2.2.1, 1 ≤ e.2.1 ∧ e.2.1 ≤ 1000
theorem stands_of {c : ByteArray} {m : Int} {bs : List Ev} (hc : KeyS c) (h1 : 1 ≤ m) (h2 : m ≤ 1000) (hl : bs.length ≤ 32) (hg : ∀ e ∈ bs, Data0.Good e ∧ e.1 = c) (hp : bs.Pairwise (fun a b => a.2.1 < b.2.1)) (hm : ∀ e ∈ bs, m ≤ e.2.1) : Stands (c, m, bs, ()) := by
  refine ⟨?_, ⟨hc.n, fun e he => (hg e he).1.s⟩, ⟨⟨by show -9223372036854775808 ≤ m; omega, by show m ≤ 9223372036854775807; omega⟩, fun e he => (hg e he).1.n⟩, hl, fun e he => (hg e he).1.q⟩
  unfold chkB
  simp only
  rw [hc.k, decide_eq_false (by omega : ¬ m < 1), decide_eq_false (by omega : ¬ m > 1073741825), decide_eq_false (by omega : ¬ (bs.length : Int) > 32)]
  simp only [Bool.not_true, cond_false]
  refine from_all _ _ 0 (fun i _ hi => ?_)
  have hi : i < bs.length := by omega
  unfold stepB
  simp only
  have he := hg _ (List.getElem_mem hi)
  rw [getD_at hi, he.1.c, he.2, seq_refl, decide_eq_false (by have := hm _ (List.getElem_mem hi); omega : ¬ (bs[i]).2.1 < m)]
  simp only [Bool.not_true, cond_false]
  rw [show ((0 : Int) != 0) = false from rfl, cond_false]
  by_cases h0 : i = 0
  · subst h0; rfl
  · have hp' : bs[i - 1].2.1 < bs[i].2.1 := List.pairwise_iff_getElem.1 hp (i - 1) i (by omega) hi (by omega)
    rw [getD_at (by omega : i - 1 < bs.length), decide_eq_false (by omega : ¬ bs[i].2.1 ≤ bs[i - 1].2.1)]
    cases decide ((i : Int) > 0) <;> rfl
theorem apps_at {n : Int} (h0 : 0 ≤ n) : ∃ k : Nat, k < 3 ∧ Int.tmod n 3 = (k : Int) := by
  obtain ⟨n, rfl⟩ := Int.eq_ofNat_of_zero_le h0
  exact ⟨n % 3, Nat.mod_lt _ (by omega), rfl⟩
abbrev StB : Type := (Int × (Unit × (ByteArray × (Unit × (Unit × (Int × Unit)))))) × (((ByteArray × (Int × (Unit × Unit))) × ((ByteArray × (Int × (Unit × Unit))) × Unit)) × (List Ev × (List Ev × Unit)))
def InvB (evs : List Ev) (c : ByteArray) (n2 : Int) (x : StB) : Prop := ∃ i bs, x = ((n2, (), c, (), (), ((i : Nat) : Int), ()), (((⟨#[]⟩ : ByteArray), 0, (), ()), (c, 1, (), ()), ()), evs, bs, ()) ∧ i ≤ evs.length ∧ bs.length ≤ 32 ∧ bs.Sublist (evs.take i) ∧ ∀ e ∈ bs, e.1 = c
theorem batch_ok {l : List Int} {n1 n2 : Int} (hl : OkS (l, 0, ())) (h1 : 0 ≤ n1) (h2 : 0 ≤ n2 ∧ n2 < 256) : Ret (fun r => Stands r.1) (law28_batch_C (l, n1, n2, ())) := by
  unfold law28_batch_C law28_batch_F
  simp only
  obtain ⟨k, hk, ek⟩ := apps_at h1
  rw [ek]
  rw [show [(⟨#[97, 112, 112]⟩ : ByteArray), (⟨#[116, 97, 98]⟩ : ByteArray), (⟨#[119, 101, 98]⟩ : ByteArray)] = apps from rfl]
  refine Ret.guard (inb_true hk) (Ret.guard (inb_true hk) ?_)
  rw [Int.toNat_natCast]
  have hkc : KeyS (apps.getD k ⟨#[]⟩) := KeyS.of apps_all (getD_mem hk _)
  generalize apps.getD k ⟨#[]⟩ = c at hkc
  refine Ret.bind (events_ok hl) ?_
  rintro ⟨evs, _⟩ he
  simp only at he ⊢
  have hn := he.n
  refine Ret.bind (Q := fun s => ∃ bs : List Ev, s = ((n2, (), (), ()), (((⟨#[]⟩ : ByteArray), 0, (), ()), (c, 1, (), ()), ()), bs, ()) ∧ bs.length ≤ 32 ∧ bs.Sublist evs ∧ ∀ e ∈ bs, e.1 = c) (Ret.iter (InvB evs c n2) (fun x => evs.length - x.1.2.2.2.2.2.1.toNat) ?_ 60 _ 100 ?_ (by simp only; omega) (by omega)) ?_
  · rintro _ self ⟨i, bs, rfl, hi, hb, hs, hc⟩ hself
    simp only
    apply Ret.cond
    · intro hcond
      cases h3 : decide ((i : Int) < (evs.length : Int))
      · rw [h3] at hcond; cases hcond
      rw [h3, cond_true, decide_eq_true_eq] at hcond
      rw [decide_eq_true_eq] at h3
      have hlt : i < evs.length := by omega
      refine Ret.bind (Q := fun s : StB => ∃ bs', s = ((n2, (), c, (), (), ((i : Nat) : Int), ()), (((⟨#[]⟩ : ByteArray), 0, (), ()), (c, 1, (), ()), ()), evs, bs', ()) ∧ bs'.length ≤ 32 ∧ bs'.Sublist (evs.take (i + 1)) ∧ ∀ e ∈ bs', e.1 = c) ?_ ?_
      · refine Ret.guard (inb_true hlt) (Ret.guard (inb_true hlt) ?_)
        simp only [Int.toNat_natCast, getD_at hlt]
        rw [List.take_succ_eq_append_getElem hlt]
        apply Ret.cond
        · intro hq
          refine Ret.guard (inb_true hlt) (Ret.guard (inb_true hlt) ?_)
          refine Ret.guard (Num0.roomy_of (by simp only [List.length_singleton]; omega)) (Ret.some ⟨_, rfl, by rw [List.length_append, List.length_singleton]; omega, hs.append (List.Sublist.refl _), ?_⟩)
          intro e hx
          rcases List.mem_append.1 hx with hx | hx
          · exact hc e hx
          · rw [List.mem_singleton.1 hx]; exact seq_iff.1 hq
        · intro _
          exact Ret.some ⟨_, rfl, hb, hs.trans (List.sublist_append_left _ _), hc⟩
      · rintro _ ⟨bs', rfl, hb', hs', hc'⟩
        simp only
        rw [wrap_id (by omega) (by omega)]
        exact hself _ ⟨i + 1, bs', rfl, by omega, hb', hs', hc'⟩ (by simp only; omega)
    · intro _
      exact Ret.some ⟨bs, rfl, hb, hs.trans (List.take_sublist _ _), hc⟩
  · exact ⟨0, [], rfl, by omega, by simp, by simp, by simp⟩
  · rintro _ ⟨bs, rfl, hb, hs, hc⟩
    simp only
    have hg : ∀ e ∈ bs, Data0.Good e ∧ e.1 = c := fun e hx => ⟨he.g e (hs.subset hx), hc e hx⟩
    have hp : bs.Pairwise (fun a b => a.2.1 < b.2.1) := by
      have := he.p.sublist hs
      rw [List.pairwise_iff_getElem] at this ⊢
      intro i j h1 h2 h3
      exact this i j h1 h2 h3 (by rw [hc _ (List.getElem_mem h1), hc _ (List.getElem_mem h2)])
    apply Ret.cond
    · intro h0
      have h0 : 0 < bs.length := by simpa using h0
      refine Ret.guard (inb_true h0) (Ret.guard (inb_true h0) ?_)
      rw [getD_at h0]
      have hq := (hg _ (List.getElem_mem h0)).1.q
      have hmin : ∀ e ∈ bs, bs[0].2.1 ≤ e.2.1 := by
        intro e hx
        obtain ⟨j, hj, rfl⟩ := List.getElem_of_mem hx
        by_cases e0 : j = 0
        · subst e0; omega
        · have := List.pairwise_iff_getElem.1 hp 0 j h0 hj (by omega); omega
      generalize bs[0].2.1 = q at hq hmin
      refine Ret.guard (by simp; omega) (Ret.some ?_)
      obtain ⟨n2', rfl⟩ := Int.eq_ofNat_of_zero_le h2.1
      obtain ⟨q', rfl⟩ := Int.eq_ofNat_of_zero_le (by omega : 0 ≤ q)
      have hlt : n2' % q' < q' := Nat.mod_lt _ (by omega)
      rw [wrap_id (n := ((n2' : Nat) : Int)) (by omega) (by omega), show Int.tmod ((n2' : Nat) : Int) ((q' : Nat) : Int) = ((n2' % q' : Nat) : Int) from rfl, wrap_id (by omega) (by omega)]
      exact stands_of hkc (by omega) (by omega) hb hg hp (fun e hx => by have := hmin e hx; omega)
    · intro _
      exact Ret.some (stands_of hkc (by omega) (by omega) hb hg hp (fun e hx => (hg e hx).1.q.1))
end Go.Proofs.YtabkfgkpofjeoaaDoor.Change0
