/- Unpack: the program's and the document's. -/
import Derived.Test.YtabkfgkpofjeoaaDoorRead1
set_option linter.unusedVariables false
set_option linter.unusedSimpArgs false
set_option maxRecDepth 100000
namespace Go.Proofs.YtabkfgkpofjeoaaDoor.Unpack0
open Go Go.Sy Go.Proofs.YtabkfgkpofjeoaaDoor.F Go.Proofs.YtabkfgkpofjeoaaDoor.Base Go.Proofs.YtabkfgkpofjeoaaDoor.Key0 Go.Proofs.YtabkfgkpofjeoaaDoor.Check0 Go.Proofs.YtabkfgkpofjeoaaDoor.Batch0 Go.Proofs.YtabkfgkpofjeoaaDoor.Mac0 Go.Proofs.YtabkfgkpofjeoaaDoor.Num0 Go.Proofs.YtabkfgkpofjeoaaDoor.Pack0 Go.Proofs.YtabkfgkpofjeoaaDoor.Data0 Go.Proofs.YtabkfgkpofjeoaaDoor.Read0 Go.Proofs.YtabkfgkpofjeoaaDoor.Read1
/-- One event read. -/
def evS (c : ByteArray) (s : S) : Ev × S :=
  let r1 := numS s
  let r2 := numS r1.2
  let r3 := numS r2.2
  let r4 := txtS r3.2
  let r5 := txtS r4.2
  let r6 := txtS r5.2
  let r7 := numS r6.2
  let r8 := numS r7.2
  let r9 := numS r8.2
  ((c, r1.1, r2.1, r3.1, r4.1, r5.1, r6.1, r7.1, r8.1, r9.1, ()), r9.2)
def evsS (c : ByteArray) : Nat → S → List Ev → List Ev × S
  | 0, s, acc => (acc, s)
  | k + 1, s, acc => evsS c k (evS c s).2 (acc ++ [(evS c s).1])
theorem evS_sizes (c : ByteArray) (s : S) (hc : c.size ≤ maxLen) : Sizes (evS c s).1 := by
  have h : ∀ s, (txtS s).1.size ≤ maxLen := fun s => by have := txtS_size s; rw [maxLen_eq]; omega
  exact ⟨hc, h _, h _, h _⟩
theorem evsS_sizes (c : ByteArray) (hc : c.size ≤ maxLen) : ∀ k s acc, (∀ e ∈ acc, Sizes e) → ∀ e ∈ (evsS c k s acc).1, Sizes e
  | 0, _, _, h => h
  | k + 1, s, acc, h => evsS_sizes c hc k _ _ (fun e he => by
    rcases List.mem_append.1 he with he | he
    · exact h e he
    · rw [List.mem_singleton.1 he]; exact evS_sizes c s hc)
def e0 : Bt := (⟨#[]⟩, 0, [], ())
/-- What stands in front of the seal. -/
def front (l : List Int) : List Int := l.take (l.length - 8)
def readB (l : List Int) : Bt × S :=
  let t := txtS (l, 0)
  let n := numS t.2
  let c := cntS n.2
  let es := evsS t.1 c.1.toNat c.2 []
  ((t.1, n.1, es.1, ()), es.2)
def read (l : List Int) : Bt × Int × Unit :=
  bif endS (readB l).2 != 0 then (e0, endS (readB l).2, ()) else bif chkB (readB l).1 != 0 then (e0, chkB (readB l).1, ()) else ((readB l).1, 0, ())
def unpack (k : Int) (l : List Int) : Bt × Int × Unit :=
  bif decide ((l.length : Int) < 8) then (e0, 16, ()) else
  bif !seq (strOf (l.drop (l.length - 8))) (strOf (word (mac k (front l)))) then (e0, 20, ()) else read (front l)
theorem readB_sizes (l : List Int) : SizesB (readB l).1 := by
  have h : ∀ s, (txtS s).1.size ≤ maxLen := fun s => by have := txtS_size s; rw [maxLen_eq]; omega
  exact ⟨h _, evsS_sizes _ (h _) _ _ _ (fun e he => by cases he)⟩
theorem cntS_bd (s : S) : 0 ≤ (cntS s).1 ∧ (cntS s).1 ≤ 32 := by
  unfold cntS
  cases ((numS s).2.2 != 0)
  · by_cases h3 : (numS s).1 < 0
    · rw [decide_eq_true h3]; exact ⟨Int.le_refl 0, by show (0 : Int) ≤ 32; omega⟩
    rw [decide_eq_false h3]
    by_cases h4 : (numS s).1 > 32
    · rw [decide_eq_true h4]; exact ⟨Int.le_refl 0, by show (0 : Int) ≤ 32; omega⟩
    rw [decide_eq_false h4]
    exact ⟨by show 0 ≤ (numS s).1; omega, by show (numS s).1 ≤ 32; omega⟩
  · exact ⟨Int.le_refl 0, by show (0 : Int) ≤ 32; omega⟩
abbrev StU : Type := (Unit × (Unit × (Unit × ((Unit × Unit) × (Unit × (Int × Unit)))))) × (((ByteArray × (Int × (Unit × Unit))) × (Unit × ((ByteArray × (Int × (Unit × Unit))) × (W3 × Unit)))) × (List Ev × Unit))
abbrev StV : Type := (Unit × (Unit × (Unit × (Int × (Int × Unit))))) × (((ByteArray × (Int × (Unit × Unit))) × ((ByteArray × (Int × (Unit × Unit))) × (R4 × Unit))) × (List Ev × Unit))
theorem Ret.eq {α : Type} {o : Option α} {b : α} (h : Ret (fun r => r = b) o) : o = some b := by
  obtain ⟨a, e, rfl⟩ := h
  exact e
theorem event_Unpack_eq (k : Int) (l : List Int) (hl : l.length < 100000) : event_Unpack_C (k, l, ()) = some (unpack k l, ()) := by
  apply Ret.eq
  unfold event_Unpack_C event_Unpack_F unpack
  simp only
  by_cases h8 : (l.length : Int) < 8
  · rw [decide_eq_true h8]; exact Ret.some rfl
  rw [decide_eq_false h8]
  simp only [cond_false]
  rw [wrap_id (n := (l.length : Int) - 8) (by omega) (by omega), show (l.length : Int) - 8 = ((l.length - 8 : Nat) : Int) by omega]
  have c1 : cutOk none (some ((l.length - 8 : Nat) : Int)) none l.length = true := by simp [cutOk] <;> omega
  have c2 : cutOk (some ((l.length - 8 : Nat) : Int)) none none l.length = true := by simp [cutOk] <;> omega
  rw [c1, c2]
  rw [show cutL l none (some ((l.length - 8 : Nat) : Int)) = front l from rfl, show cutL l (some ((l.length - 8 : Nat) : Int)) none = l.drop (l.length - 8) from rfl]
  simp only [cond_true]
  have hf : (front l).length < 100000 := by unfold front; rw [List.length_take]; omega
  rw [dmac k (front l) (by omega), Option.bind_some]
  simp only
  rw [putWord_eq _ (by simp), Option.bind_some]
  simp only [List.nil_append]
  rw [show bytes_Equal_C (l.drop (l.length - 8), word (mac k (front l)), ()) = some (seq (strOf (l.drop (l.length - 8))) (strOf (word (mac k (front l)))), ()) from rfl, Option.bind_some]
  simp only
  cases seq (strOf (l.drop (l.length - 8))) (strOf (word (mac k (front l))))
  · exact Ret.some rfl
  simp only [Bool.not_true, cond_false]
  unfold wire_New_C wire_New_F
  simp only
  rw [own_eq (by simp; omega), Option.bind_some]
  simp only [List.append_nil]
  rw [Option.bind_some]
  simp only
  have hw0 : RW (front l, 0, ()) (front l, 0) := ⟨rfl, fun _ => rfl, by show (front l).length < _; omega⟩
  unfold read
  have hsz := readB_sizes (front l)
  generalize hF : readB (front l) = F at hsz ⊢
  unfold readB at hF
  simp only at hF
  refine Ret.bind (w1 hw0) ?_
  rintro ⟨t, w2, _⟩ ⟨q1, q2⟩
  simp only at q1 q2 ⊢
  subst q1
  refine Ret.bind (wnum q2) ?_
  rintro ⟨n, w3, _⟩ ⟨q3, q4⟩
  simp only at q3 q4 ⊢
  subst q3
  refine Ret.bind (wcnt q4) ?_
  rintro ⟨c, w4, _⟩ ⟨q5, q6⟩
  simp only at q5 q6 ⊢
  subst q5
  have hcb := cntS_bd (numS (txtS (front l, 0)).2).2
  generalize (cntS (numS (txtS (front l, 0)).2).2) = cc at hF q6 hcb ⊢
  obtain ⟨cn, s4⟩ := cc
  simp only at hF q6 hcb ⊢
  obtain ⟨cn, rfl⟩ := Int.eq_ofNat_of_zero_le hcb.1
  rw [Int.toNat_natCast] at hF
  generalize (numS (txtS (front l, 0)).2).1 = nn at hF ⊢
  generalize (txtS (front l, 0)).1 = tt at hF ⊢
  refine Ret.bind (Q := fun r => ∃ w, r = (((), (), (), ()), (((⟨#[]⟩ : ByteArray), 0, (), ()), (), (tt, nn, (), ()), w, ()), (evsS tt cn s4 []).1, ()) ∧ RW w (evsS tt cn s4 []).2) (Ret.iter (fun x : StU => ∃ (j : Nat) (w : W3) (s : S) (acc : List Ev), x = (((), (), (), ((), ()), (), (j : Int), ()), (((⟨#[]⟩ : ByteArray), 0, (), ()), (), (tt, nn, (), ()), w, ()), acc, ()) ∧ RW w s ∧ evsS tt j s acc = evsS tt cn s4 [] ∧ acc.length + j ≤ 32) (fun x => x.1.2.2.2.2.2.1.toNat) ?_ 50 _ 100 ⟨cn, w4, s4, [], rfl, q6, rfl, by simp <;> omega⟩ (by simp only; omega) (by omega)) ?_
  · rintro _ self ⟨j, w, s, acc, rfl, hw, he, hj⟩ hself
    simp only
    cases j with
    | zero =>
      rw [show decide (((0 : Nat) : Int) > 0) = false from rfl]
      rw [← he]
      exact Ret.some ⟨w, rfl, hw⟩
    | succ j =>
      rw [show decide (((j + 1 : Nat) : Int) > 0) = true by simp]
      simp only [cond_true]
      refine Ret.bind (wnum hw) ?_
      rintro ⟨v1, x1, _⟩ ⟨a1, b1⟩
      simp only at a1 b1 ⊢
      refine Ret.bind (wnum b1) ?_
      rintro ⟨v2, x2, _⟩ ⟨a2, b2⟩
      simp only at a2 b2 ⊢
      refine Ret.bind (wnum b2) ?_
      rintro ⟨v3, x3, _⟩ ⟨a3, b3⟩
      simp only at a3 b3 ⊢
      refine Ret.bind (w1 b3) ?_
      rintro ⟨v4, x4, _⟩ ⟨a4, b4⟩
      simp only at a4 b4 ⊢
      refine Ret.bind (w1 b4) ?_
      rintro ⟨v5, x5, _⟩ ⟨a5, b5⟩
      simp only at a5 b5 ⊢
      refine Ret.bind (w1 b5) ?_
      rintro ⟨v6, x6, _⟩ ⟨a6, b6⟩
      simp only at a6 b6 ⊢
      refine Ret.bind (wnum b6) ?_
      rintro ⟨v7, x7, _⟩ ⟨a7, b7⟩
      simp only at a7 b7 ⊢
      refine Ret.bind (wnum b7) ?_
      rintro ⟨v8, x8, _⟩ ⟨a8, b8⟩
      simp only at a8 b8 ⊢
      refine Ret.bind (wnum b8) ?_
      rintro ⟨v9, x9, _⟩ ⟨a9, b9⟩
      simp only at a9 b9 ⊢
      subst a1 a2 a3 a4 a5 a6 a7 a8 a9
      rw [wrap_id (by omega) (by omega), show ((j + 1 : Nat) : Int) - 1 = (j : Int) by omega]
      refine Ret.guard (roomy_of (by simp only [List.length_singleton]; omega)) ?_
      exact hself _ ⟨j, x9, _, _, rfl, b9, he, by rw [List.length_append, List.length_singleton]; omega⟩ (by simp only; omega)
  · rintro _ ⟨w, rfl, hw⟩
    simp only
    subst hF
    simp only at hsz
    refine Ret.bind (wend hw) ?_
    rintro ⟨v, x, _⟩ ⟨a1, b1⟩
    simp only at a1 b1 ⊢
    subst a1
    generalize endS (evsS tt cn s4 []).2 = ee
    by_cases he : ee = 0
    · subst he
      rw [show ((0 : Int) != 0) = false from rfl, cond_false, event_CheckBatch_eq _ hsz, Option.bind_some]
      simp only
      cases (chkB (tt, nn, (evsS tt cn s4 []).1, ()) != 0)
      · exact Ret.some rfl
      · exact Ret.some rfl
    · rw [ne_b he]
      exact Ret.some rfl
theorem ref28_Unpack_eq (k : Int) (l : List Int) (hl : l.length < 100000) : ref28_Unpack_C (k, l, ()) = some (unpack k l, ()) := by
  apply Ret.eq
  unfold ref28_Unpack_C ref28_Unpack_F unpack
  simp only
  by_cases h8 : (l.length : Int) < 8
  · rw [decide_eq_true h8]; exact Ret.some rfl
  rw [decide_eq_false h8]
  simp only [cond_false]
  rw [wrap_id (n := (l.length : Int) - 8) (by omega) (by omega), show (l.length : Int) - 8 = ((l.length - 8 : Nat) : Int) by omega]
  have c1 : cutOk none (some ((l.length - 8 : Nat) : Int)) none l.length = true := by simp [cutOk] <;> omega
  have c2 : cutOk (some ((l.length - 8 : Nat) : Int)) none none l.length = true := by simp [cutOk] <;> omega
  rw [c1, c2]
  rw [show cutL l none (some ((l.length - 8 : Nat) : Int)) = front l from rfl, show cutL l (some ((l.length - 8 : Nat) : Int)) none = l.drop (l.length - 8) from rfl]
  simp only [cond_true]
  have hf : (front l).length < 100000 := by unfold front; rw [List.length_take]; omega
  rw [rmac k (front l) (by omega), Option.bind_some]
  simp only
  rw [rputWord_eq _ (by simp), Option.bind_some]
  simp only [List.nil_append]
  rw [seq_comm (strOf (word (mac k (front l)))) (strOf (l.drop (l.length - 8)))]
  cases seq (strOf (l.drop (l.length - 8))) (strOf (word (mac k (front l))))
  · exact Ret.some rfl
  simp only [Bool.not_true, cond_false]
  rw [show ref4_New_C (front l, ()) = some ((front l, 0, 0, ()), ()) from rfl, Option.bind_some]
  simp only
  have hd : (front l).length < 1000000 := by omega
  have hw0 : RR (front l) (front l, 0, 0, ()) (front l, 0) := ⟨rfl, rfl, fun _ => ⟨0, rfl, Nat.zero_le _, rfl⟩⟩
  unfold read
  have hsz := readB_sizes (front l)
  generalize hF : readB (front l) = F at hsz ⊢
  unfold readB at hF
  simp only at hF
  refine Ret.bind (rtxt hd hw0) ?_
  rintro ⟨t, w2, _⟩ ⟨q1, q2⟩
  simp only at q1 q2 ⊢
  subst q1
  refine Ret.bind (rnum hd q2) ?_
  rintro ⟨n, w3, _⟩ ⟨q3, q4⟩
  simp only at q3 q4 ⊢
  subst q3
  refine Ret.bind (rcnt hd q4) ?_
  rintro ⟨c, w4, _⟩ ⟨q5, q6⟩
  simp only at q5 q6 ⊢
  subst q5
  have hcb := cntS_bd (numS (txtS (front l, 0)).2).2
  generalize (cntS (numS (txtS (front l, 0)).2).2) = cc at hF q6 hcb ⊢
  obtain ⟨cn, s4⟩ := cc
  simp only at hF q6 hcb ⊢
  obtain ⟨cn, rfl⟩ := Int.eq_ofNat_of_zero_le hcb.1
  rw [Int.toNat_natCast] at hF
  generalize (numS (txtS (front l, 0)).2).1 = nn at hF ⊢
  generalize (txtS (front l, 0)).1 = tt at hF ⊢
  refine Ret.bind (Q := fun r => ∃ w, r = (((), (), (), ()), (((⟨#[]⟩ : ByteArray), 0, (), ()), (tt, nn, (), ()), w, ()), (evsS tt cn s4 []).1, ()) ∧ RR (front l) w (evsS tt cn s4 []).2) (Ret.iter (fun x : StV => ∃ (i j : Nat) (w : R4) (s : S) (acc : List Ev), x = (((), (), (), (cn : Int), (i : Int), ()), (((⟨#[]⟩ : ByteArray), 0, (), ()), (tt, nn, (), ()), w, ()), acc, ()) ∧ i + j = cn ∧ RR (front l) w s ∧ evsS tt j s acc = evsS tt cn s4 [] ∧ acc.length + j ≤ 32) (fun x => cn - x.1.2.2.2.2.1.toNat) ?_ 50 _ 100 ⟨0, cn, w4, s4, [], rfl, Nat.zero_add _, q6, rfl, by simp <;> omega⟩ (by simp only; omega) (by omega)) ?_
  · rintro _ self ⟨i, j, w, s, acc, rfl, hij, hw, he, hj⟩ hself
    simp only
    cases j with
    | zero =>
      rw [show decide ((i : Int) < (cn : Int)) = false by simp; omega]
      rw [← he]
      exact Ret.some ⟨w, rfl, hw⟩
    | succ j =>
      rw [show decide ((i : Int) < (cn : Int)) = true by simp; omega]
      simp only [cond_true]
      refine Ret.bind (rnum hd hw) ?_
      rintro ⟨v1, x1, _⟩ ⟨a1, b1⟩
      simp only at a1 b1 ⊢
      refine Ret.bind (rnum hd b1) ?_
      rintro ⟨v2, x2, _⟩ ⟨a2, b2⟩
      simp only at a2 b2 ⊢
      refine Ret.bind (rnum hd b2) ?_
      rintro ⟨v3, x3, _⟩ ⟨a3, b3⟩
      simp only at a3 b3 ⊢
      refine Ret.bind (rtxt hd b3) ?_
      rintro ⟨v4, x4, _⟩ ⟨a4, b4⟩
      simp only at a4 b4 ⊢
      refine Ret.bind (rtxt hd b4) ?_
      rintro ⟨v5, x5, _⟩ ⟨a5, b5⟩
      simp only at a5 b5 ⊢
      refine Ret.bind (rtxt hd b5) ?_
      rintro ⟨v6, x6, _⟩ ⟨a6, b6⟩
      simp only at a6 b6 ⊢
      refine Ret.bind (rnum hd b6) ?_
      rintro ⟨v7, x7, _⟩ ⟨a7, b7⟩
      simp only at a7 b7 ⊢
      refine Ret.bind (rnum hd b7) ?_
      rintro ⟨v8, x8, _⟩ ⟨a8, b8⟩
      simp only at a8 b8 ⊢
      refine Ret.bind (rnum hd b8) ?_
      rintro ⟨v9, x9, _⟩ ⟨a9, b9⟩
      simp only at a9 b9 ⊢
      subst a1 a2 a3 a4 a5 a6 a7 a8 a9
      rw [wrap_id (by omega) (by omega)]
      refine Ret.guard (roomy_of (by simp only [List.length_singleton]; omega)) ?_
      exact hself _ ⟨i + 1, j, x9, _, _, rfl, by omega, b9, he, by rw [List.length_append, List.length_singleton]; omega⟩ (by simp only; omega)
  · rintro _ ⟨w, rfl, hw⟩
    simp only
    subst hF
    simp only at hsz
    refine Ret.bind (rend hw) ?_
    rintro ⟨v, x, _⟩ ⟨a1, b1⟩
    simp only at a1 b1 ⊢
    subst a1
    generalize endS (evsS tt cn s4 []).2 = ee
    by_cases he : ee = 0
    · subst he
      rw [show ((0 : Int) != 0) = false from rfl, show ((0 : Int) == 0) = true from rfl]
      simp only [cond_false, cond_true]
      rw [ref28_CheckBatch_eq _ hsz, Option.bind_some]
      simp only
      cases (chkB (tt, nn, (evsS tt cn s4 []).1, ()) != 0)
      · exact Ret.some rfl
      · exact Ret.some rfl
    · rw [ne_b he, ne_e he]
      exact Ret.some rfl
/-- A batch is the same as itself. -/
theorem sameEvents (es : List Ev) (h : es.length < 1000000) : ref28_SameEvents_C (es, es, ()) = some (true, ()) := by
  unfold ref28_SameEvents_C ref28_SameEvents_F
  simp only
  rw [show ((es.length : Int) != (es.length : Int)) = false by simp, cond_false]
  rw [iter_up0 (x0 := ((es, es, 0, ()), (), ())) (fun i => ((es, es, (i : Int), ()), (), ())) (fun i => some (Sum.inl ((), (), ()))) es.length rfl (by omega)]
  · rfl
  · intro i hi self hself
    simp only
    by_cases hlt : i < es.length
    · rw [show decide ((i : Int) < (es.length : Int)) = true by simp; omega, inb_true hlt, wrap_id (by omega) (by omega)]
      simp only [cond_true, seq_refl, beq_self_eq_true, Bool.and_true, Bool.not_true, cond_false]
      exact hself hlt
    · rw [show decide ((i : Int) < (es.length : Int)) = false by simp; omega]
      rfl
theorem sameBatch (b : Bt) (h : b.2.2.1.length < 1000000) : ref28_SameBatch_C (b, b, ()) = some (true, ()) := by
  unfold ref28_SameBatch_C ref28_SameBatch_F
  simp only [seq_refl, cond_true, beq_self_eq_true, sameEvents _ h, Option.bind_some]
theorem evsS_len (c : ByteArray) : ∀ k s acc, (evsS c k s acc).1.length = acc.length + k
  | 0, _, _ => rfl
  | k + 1, s, acc => by
    show (evsS c k _ _).1.length = _
    rw [evsS_len c k, List.length_append, List.length_singleton]; omega
theorem readB_len (l : List Int) : (readB l).1.2.2.1.length ≤ 32 := by
  unfold readB
  simp only
  rw [evsS_len]
  have := cntS_bd (numS (txtS (l, 0)).2).2
  simp; omega
theorem unpack_len (k : Int) (l : List Int) : (unpack k l).1.2.2.1.length ≤ 32 := by
  unfold unpack read
  cases decide ((l.length : Int) < 8)
  · cases seq (strOf (l.drop (l.length - 8))) (strOf (word (mac k (front l))))
    · exact Nat.zero_le _
    · cases (endS (readB (front l)).2 != 0)
      · cases (chkB (readB (front l)).1 != 0)
        · exact readB_len _
        · exact Nat.zero_le _
      · exact Nat.zero_le _
  · exact Nat.zero_le _
end Go.Proofs.YtabkfgkpofjeoaaDoor.Unpack0
