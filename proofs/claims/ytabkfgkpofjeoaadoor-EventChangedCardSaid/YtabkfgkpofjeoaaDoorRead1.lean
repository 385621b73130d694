/- The readers' machine: what both readers do, told of the rest and the error alone. -/
import Derived.Test.YtabkfgkpofjeoaaDoorRead0
set_option linter.unusedVariables false
set_option linter.unusedSimpArgs false
set_option maxRecDepth 100000
namespace Go.Proofs.YtabkfgkpofjeoaaDoor.Read1
open Go Go.Sy Go.Proofs.YtabkfgkpofjeoaaDoor.F Go.Proofs.YtabkfgkpofjeoaaDoor.Base Go.Proofs.YtabkfgkpofjeoaaDoor.Key0 Go.Proofs.YtabkfgkpofjeoaaDoor.Num0 Go.Proofs.YtabkfgkpofjeoaaDoor.Pack0 Go.Proofs.YtabkfgkpofjeoaaDoor.Data0 Go.Proofs.YtabkfgkpofjeoaaDoor.Read0
abbrev S : Type := List Int × Int
def numS (s : S) : Int × S := bif s.2 != 0 then (0, s) else ((num s.1).2.1, (s.1.drop (num s.1).2.2, (num s.1).1))
def txtS (s : S) : ByteArray × S :=
  bif (numS s).2.2 != 0 then (⟨#[]⟩, (numS s).2) else
  bif decide ((numS s).1 < 0) then (⟨#[]⟩, ((numS s).2.1, 3)) else
  bif decide ((numS s).1 > 32) then (⟨#[]⟩, ((numS s).2.1, 4)) else
  bif decide ((numS s).1 > ((numS s).2.1.length : Int)) then (⟨#[]⟩, ((numS s).2.1, 16)) else
  (strOf ((numS s).2.1.take (numS s).1.toNat), ((numS s).2.1.drop (numS s).1.toNat, 0))
def cntS (s : S) : Int × S :=
  bif (numS s).2.2 != 0 then (0, (numS s).2) else
  bif decide ((numS s).1 < 0) then (0, ((numS s).2.1, 3)) else
  bif decide ((numS s).1 > 32) then (0, ((numS s).2.1, 5)) else ((numS s).1, (numS s).2)
def endS (s : S) : Int := bif (bif s.2 == 0 then decide ((s.1.length : Int) > 0) else false) then 17 else s.2
structure RW (w : W3) (s : S) : Prop where
  e : w.2.1 = s.2
  r : s.2 = 0 → w.1 = s.1
  l : w.1.length < 1000000
structure RR (d : List Int) (r : R4) (s : S) : Prop where
  dd : r.1 = d
  e : r.2.2.1 = s.2
  r : s.2 = 0 → ∃ p : Nat, r.2.1 = (p : Int) ∧ p ≤ d.length ∧ s.1 = d.drop p
theorem n3 {P : Prop} (h : (3 : Int) = 0) : P := absurd h (by decide)
theorem n4 {P : Prop} (h : (4 : Int) = 0) : P := absurd h (by decide)
theorem n5 {P : Prop} (h : (5 : Int) = 0) : P := absurd h (by decide)
theorem n16 {P : Prop} (h : (16 : Int) = 0) : P := absurd h (by decide)
theorem ne_b {x : Int} (h : x ≠ 0) : (x != 0) = true := by simpa using h
theorem ne_e {x : Int} (h : x ≠ 0) : (x == 0) = false := by simpa using h
theorem wnum {w : W3} {s : S} (h : RW w s) : Ret (fun r => r.1 = (numS s).1 ∧ RW r.2.1 (numS s).2) (wire_Reader_Number_C (w, ())) := by
  obtain ⟨l, e, _⟩ := w
  obtain ⟨he, hr, hl⟩ := h
  simp only at he hr hl
  subst he
  unfold numS
  by_cases h0 : s.2 = 0
  · have hr := hr h0
    subst hr
    rw [h0, wnum0 s.1 hl, show ((0 : Int) != 0) = false from rfl, cond_false]
    exact Ret.some ⟨rfl, rfl, fun _ => rfl, by rw [List.length_drop]; omega⟩
  · unfold wire_Reader_Number_C wire_Reader_Number_F
    simp only
    rw [ne_b h0]
    exact Ret.some ⟨rfl, rfl, fun h => absurd h h0, hl⟩
theorem rnum {d : List Int} (hd : d.length < 1000000) {r : R4} {s : S} (h : RR d r s) : Ret (fun a => a.1 = (numS s).1 ∧ RR d a.2.1 (numS s).2) (ref4_Reader_Number_C (r, ())) := by
  obtain ⟨l, q, e, _⟩ := r
  obtain ⟨h1, he, hr⟩ := h
  simp only at h1 he hr
  subst h1
  subst he
  unfold numS
  by_cases h0 : s.2 = 0
  · obtain ⟨p, rfl, hp, hs⟩ := hr h0
    rw [h0, rnum0 l p hp hd, show ((0 : Int) != 0) = false from rfl, cond_false, hs]
    refine Ret.some ⟨rfl, rfl, rfl, fun _ => ⟨_, rfl, ?_, ?_⟩⟩
    · have := numG_le (l.drop p) 10 0
      rw [List.length_drop] at this
      unfold num; omega
    · show (l.drop p).drop _ = _
      rw [List.drop_drop]
  · unfold ref4_Reader_Number_C ref4_Reader_Number_F
    simp only
    rw [ne_b h0]
    have : ∀ (f : ((Unit × (Int × (Int × Unit))) × (((List Int × (Int × (Int × Unit))) × Unit) × Unit) → Option ((Unit × (((List Int × (Int × (Int × Unit))) × Unit) × Unit)) ⊕ (Int × ((List Int × (Int × (Int × Unit))) × Unit)))) → ((Unit × (Int × (Int × Unit))) × (((List Int × (Int × (Int × Unit))) × Unit) × Unit)) → Option ((Unit × (((List Int × (Int × (Int × Unit))) × Unit) × Unit)) ⊕ (Int × ((List Int × (Int × (Int × Unit))) × Unit)))) (x : _), iter 100 f x = f (iter 99 f) x := fun _ _ => rfl
    rw [this]
    simp only
    rw [ne_e h0]
    exact Ret.some ⟨rfl, rfl, rfl, fun h => absurd h h0⟩
theorem wlen {w : W3} {s : S} (h : RW w s) (c : Int) (hc : c ≠ 0) : Ret (fun r => RW r.2.1 (bif (numS s).2.2 != 0 then (numS s).2 else bif decide ((numS s).1 < 0) then ((numS s).2.1, 3) else bif decide ((numS s).1 > 32) then ((numS s).2.1, c) else (numS s).2) ∧ r.1 = (bif (numS s).2.2 != 0 then 0 else bif decide ((numS s).1 < 0) then 0 else bif decide ((numS s).1 > 32) then 0 else (numS s).1)) (wire_Reader_length_C (w, 32, c, ())) := by
  unfold wire_Reader_length_C wire_Reader_length_F
  simp only
  refine Ret.bind (wnum h) ?_
  rintro ⟨v, ⟨l, e, _⟩, _⟩ ⟨h1, h2⟩
  simp only at h1 h2 ⊢
  subst h1
  obtain ⟨he, hr, hl⟩ := h2
  simp only at he hr hl
  subst he
  unfold wire_Reader_Fail_C wire_Reader_Fail_F
  simp only
  by_cases h0 : (numS s).2.2 = 0
  · have hr := hr h0
    rw [h0]
    simp only [show ((0 : Int) == 0) = true from rfl, show ((0 : Int) != 0) = false from rfl, cond_true, cond_false, Option.bind_some]
    by_cases h3 : (numS s).1 < 0
    · rw [decide_eq_true h3]
      exact Ret.some ⟨⟨rfl, fun h => n3 h, hl⟩, rfl⟩
    · rw [decide_eq_false h3]
      by_cases h4 : (numS s).1 > 32
      · rw [decide_eq_true h4]
        simp only [cond_true, cond_false, Option.bind_some]
        rw [ne_b hc]
        exact Ret.some ⟨⟨rfl, fun h => absurd h hc, hl⟩, rfl⟩
      · rw [decide_eq_false h4]
        exact Ret.some ⟨⟨h0.symm, fun _ => hr, hl⟩, rfl⟩
  · simp only [ne_b h0, ne_e h0, cond_true, cond_false, Option.bind_some]
    have key : ∀ r : Option (Int × W3 × Unit), r = some (0, (l, (numS s).2.2, ()), ()) → Ret (fun r : Int × W3 × Unit => RW r.2.1 (numS s).2 ∧ r.1 = 0) r := fun r e => ⟨_, e, ⟨rfl, fun h => absurd h h0, hl⟩, rfl⟩
    apply key
    cases decide ((numS s).1 < 0) <;> cases decide ((numS s).1 > 32) <;> simp only [cond_true, cond_false, Option.bind_some, ne_b h0]
theorem wcnt {w : W3} {s : S} (h : RW w s) : Ret (fun r => r.1 = (cntS s).1 ∧ RW r.2.1 (cntS s).2) (wire_Reader_Count_C (w, 32, ())) := by
  unfold wire_Reader_Count_C wire_Reader_Count_F cntS
  simp only
  refine Ret.bind (wlen h 5 (by decide)) ?_
  rintro ⟨v, w', _⟩ ⟨h1, h2⟩
  simp only at h1 h2 ⊢
  cases h3 : ((numS s).2.2 != 0) <;> cases h4 : decide ((numS s).1 < 0) <;> cases h5 : decide ((numS s).1 > 32) <;> rw [h3, h4, h5] at h1 h2 <;> exact Ret.some ⟨h2, h1⟩
theorem wtxt {w : W3} {s : S} (h : RW w s) : Ret (fun r => r.1 = (txtS s).1 ∧ RW r.2.1 (txtS s).2) (wire_Reader_Text_C (w, 32, ())) := by
  unfold wire_Reader_Text_C wire_Reader_Text_F txtS
  simp only
  refine Ret.bind (wlen h 4 (by decide)) ?_
  rintro ⟨v, ⟨l, e, _⟩, _⟩ ⟨h1, h2⟩
  simp only at h1 h2 ⊢
  unfold wire_Reader_take_C wire_Reader_take_F
  simp only
  obtain ⟨he, hr, hl⟩ := h1
  simp only at he hr hl
  have bad : ∀ c : Int, c ≠ 0 → e = c → ∀ x : List Int, Ret (fun r : ByteArray × W3 × Unit => r.1 = ⟨#[]⟩ ∧ RW r.2.1 (x, c)) (Option.bind (bif (bif e == 0 then decide (v > (l.length : Int)) else false) then (some (([] : List Int), (l, 16, ()), ())) else bif e != 0 then (some (([] : List Int), (l, e, ()), ())) else bif cutOk none (some v) (some v) l.length then bif cutOk (some v) none none l.length then some (cutL l none (some v), (cutL l (some v) none, e, ()), ()) else none else none) fun r2 => some (strOf r2.1, r2.2.1, ())) := by
    intro c hc hec x
    subst hec
    rw [ne_e hc, ne_b hc]
    exact Ret.some ⟨rfl, rfl, fun h => absurd h hc, hl⟩
  by_cases h0 : (numS s).2.2 = 0
  · rw [h0] at he hr h2 ⊢
    simp only [show ((0 : Int) != 0) = false from rfl, cond_false] at he hr h2 ⊢
    by_cases h3 : (numS s).1 < 0
    · rw [decide_eq_true h3] at he ⊢
      exact bad 3 (by decide) he _
    rw [decide_eq_false h3] at he hr h2 ⊢
    by_cases h4 : (numS s).1 > 32
    · rw [decide_eq_true h4] at he ⊢
      exact bad 4 (by decide) he _
    rw [decide_eq_false h4] at he hr h2 ⊢
    simp only [cond_false] at he hr h2 ⊢
    rw [h0] at he
    have hr := hr h0
    subst he
    subst h2
    subst hr
    by_cases h5 : (numS s).1 > ((numS s).2.1.length : Int)
    · rw [decide_eq_true h5]
      exact Ret.some ⟨rfl, rfl, fun h => n16 h, hl⟩
    · rw [decide_eq_false h5]
      have c1 : cutOk none (some (numS s).1) (some (numS s).1) (numS s).2.1.length = true := by simp [cutOk]; omega
      have c2 : cutOk (some (numS s).1) none none (numS s).2.1.length = true := by simp [cutOk]; omega
      rw [c1, c2]
      exact Ret.some ⟨rfl, rfl, fun _ => rfl, by show ((numS s).2.1.drop _).length < _; rw [List.length_drop]; omega⟩
  · rw [ne_b h0] at he ⊢
    exact bad _ h0 he _
theorem w1 {w : W3} {s : S} (h : RW w s) : Ret (fun r => r.1 = (txtS s).1 ∧ RW r.2.1 (txtS s).2) (event_Unpack_1_C (w, ())) := by
  unfold event_Unpack_1_C event_Unpack_1_F
  simp only
  refine Ret.bind (wtxt h) ?_
  rintro ⟨v, w', _⟩ h
  exact Ret.some h
theorem wend {w : W3} {s : S} (h : RW w s) : Ret (fun r => r.1 = endS s ∧ RW r.2.1 s) (wire_Reader_End_C (w, ())) := by
  obtain ⟨l, e, _⟩ := w
  have h' := h
  obtain ⟨he, hr, hl⟩ := h
  simp only at he hr hl
  subst he
  unfold wire_Reader_End_C wire_Reader_End_F endS
  simp only
  by_cases h0 : s.2 = 0
  · have := hr h0
    subst this
    cases (bif s.2 == 0 then decide ((s.1.length : Int) > 0) else false)
    · exact Ret.some ⟨rfl, h'⟩
    · exact Ret.some ⟨rfl, h'⟩
  · rw [ne_e h0]
    exact Ret.some ⟨rfl, h'⟩
theorem rend {d : List Int} {r : R4} {s : S} (h : RR d r s) : Ret (fun a => a.1 = endS s ∧ RR d a.2.1 s) (ref4_Reader_End_C (r, ())) := by
  obtain ⟨l, q, e, _⟩ := r
  have h' := h
  obtain ⟨h1, he, hr⟩ := h
  simp only at h1 he hr
  subst h1
  subst he
  unfold ref4_Reader_End_C ref4_Reader_End_F endS
  simp only
  by_cases h0 : s.2 = 0
  · obtain ⟨p, rfl, hp, hs⟩ := hr h0
    rw [hs, List.length_drop, show decide ((p : Int) < (l.length : Int)) = decide (((l.length - p : Nat) : Int) > 0) by congr 1; apply propext; omega]
    cases (bif s.2 == 0 then decide (((l.length - p : Nat) : Int) > 0) else false)
    · exact Ret.some ⟨rfl, h'⟩
    · exact Ret.some ⟨rfl, h'⟩
  · rw [ne_e h0]
    exact Ret.some ⟨rfl, h'⟩
theorem rcnt {d : List Int} (hd : d.length < 1000000) {r : R4} {s : S} (h : RR d r s) : Ret (fun a => a.1 = (cntS s).1 ∧ RR d a.2.1 (cntS s).2) (ref4_Reader_Count_C (r, 32, ())) := by
  unfold ref4_Reader_Count_C ref4_Reader_Count_F cntS
  simp only
  refine Ret.bind (rnum hd h) ?_
  rintro ⟨v, ⟨l, q, e, _⟩, _⟩ ⟨h1, h2⟩
  simp only at h1 h2 ⊢
  subst h1
  have h2' := h2
  obtain ⟨hl, he, hr⟩ := h2
  simp only at hl he hr
  subst hl
  subst he
  unfold ref4_Reader_Fail_C ref4_Reader_Fail_F
  simp only
  by_cases h0 : (numS s).2.2 = 0
  · rw [h0] at h2' ⊢
    simp only [show ((0 : Int) == 0) = true from rfl, show ((0 : Int) != 0) = false from rfl, cond_true, cond_false, Option.bind_some]
    by_cases h3 : (numS s).1 < 0
    · rw [decide_eq_true h3]
      exact Ret.some ⟨rfl, rfl, rfl, fun h => n3 h⟩
    · rw [decide_eq_false h3]
      by_cases h4 : (numS s).1 > 32
      · rw [decide_eq_true h4]
        exact Ret.some ⟨rfl, rfl, rfl, fun h => n5 h⟩
      · rw [decide_eq_false h4]
        exact Ret.some ⟨rfl, h2'⟩
  · rw [ne_b h0, ne_e h0]
    exact Ret.some ⟨rfl, h2'⟩
theorem rtxt {d : List Int} (hd : d.length < 1000000) {r : R4} {s : S} (h : RR d r s) : Ret (fun a => a.1 = (txtS s).1 ∧ RR d a.2.1 (txtS s).2) (ref4_Reader_Text_C (r, 32, ())) := by
  unfold ref4_Reader_Text_C ref4_Reader_Text_F txtS
  simp only
  refine Ret.bind (rnum hd h) ?_
  rintro ⟨v, ⟨l, q, e, _⟩, _⟩ ⟨h1, h2⟩
  simp only at h1 h2 ⊢
  subst h1
  have h2' := h2
  obtain ⟨hl, he, hr⟩ := h2
  simp only at hl he hr
  subst hl
  subst he
  unfold ref4_Reader_Fail_C ref4_Reader_Fail_F
  simp only
  by_cases h0 : (numS s).2.2 = 0
  · obtain ⟨p, rfl, hp, hs⟩ := hr h0
    rw [h0] at h2' ⊢
    simp only [show ((0 : Int) == 0) = true from rfl, show ((0 : Int) != 0) = false from rfl, cond_true, cond_false, Option.bind_some]
    by_cases h3 : (numS s).1 < 0
    · rw [decide_eq_true h3]
      exact Ret.some ⟨rfl, rfl, rfl, fun h => n3 h⟩
    rw [decide_eq_false h3]
    by_cases h4 : (numS s).1 > 32
    · rw [decide_eq_true h4]
      exact Ret.some ⟨rfl, rfl, rfl, fun h => n4 h⟩
    rw [decide_eq_false h4]
    rw [wrap_id (n := (l.length : Int) - (p : Int)) (by omega) (by omega), hs, List.length_drop, show (l.length : Int) - (p : Int) = ((l.length - p : Nat) : Int) by omega]
    by_cases h5 : (numS s).1 > ((l.length - p : Nat) : Int)
    · rw [decide_eq_true h5]
      exact Ret.some ⟨rfl, rfl, rfl, fun h => n16 h⟩
    · rw [decide_eq_false h5]
      simp only [cond_false]
      generalize (numS s).1 = v at h3 h4 h5
      obtain ⟨n, rfl⟩ := Int.eq_ofNat_of_zero_le (by omega : 0 ≤ v)
      rw [wrap_id (n := (p : Int) + (n : Int)) (by omega) (by omega), wrap_id (n := (p : Int) + (n : Int) - (n : Int)) (by omega) (by omega), show (p : Int) + (n : Int) - (n : Int) = (p : Int) by omega, show (p : Int) + (n : Int) = ((p + n : Nat) : Int) by omega]
      have c1 : cutOk (some (p : Int)) (some ((p + n : Nat) : Int)) none l.length = true := by simp [cutOk]; omega
      rw [c1]
      refine Ret.some ⟨?_, rfl, rfl, fun _ => ⟨p + n, rfl, by omega, ?_⟩⟩
      · show strOf ((l.take (((p + n : Nat) : Int)).toNat).drop ((p : Int)).toNat) = strOf ((l.drop p).take ((n : Int)).toNat)
        rw [Int.toNat_natCast, Int.toNat_natCast, Int.toNat_natCast, List.drop_take]
        congr 2; omega
      · show (l.drop p).drop ((n : Int)).toNat = _
        rw [Int.toNat_natCast, List.drop_drop]
  · rw [ne_b h0]
    simp only [cond_true, Option.bind_some]
    exact Ret.some ⟨rfl, rfl, rfl, fun h => absurd h h0⟩
theorem strOf_size (l : List Int) : (strOf l).size = l.length := by unfold strOf; simp [ByteArray.size]
theorem txtS_size (s : S) : (txtS s).1.size ≤ 32 := by
  unfold txtS
  cases ((numS s).2.2 != 0)
  · by_cases h3 : (numS s).1 < 0
    · rw [decide_eq_true h3]; show (⟨#[]⟩ : ByteArray).size ≤ 32; decide
    rw [decide_eq_false h3]
    by_cases h4 : (numS s).1 > 32
    · rw [decide_eq_true h4]; show (⟨#[]⟩ : ByteArray).size ≤ 32; decide
    rw [decide_eq_false h4]
    cases decide ((numS s).1 > ((numS s).2.1.length : Int))
    · show (strOf _).size ≤ 32
      rw [strOf_size, List.length_take]; omega
    · show (⟨#[]⟩ : ByteArray).size ≤ 32; decide
  · show (⟨#[]⟩ : ByteArray).size ≤ 32; decide
end Go.Proofs.YtabkfgkpofjeoaaDoor.Read1
