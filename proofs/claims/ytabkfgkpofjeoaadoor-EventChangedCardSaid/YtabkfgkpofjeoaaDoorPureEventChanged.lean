/- EventChanged over plain values: Unpack of changed bytes is the document's, and what it takes is laid down again as it stood. -/
import Derived.Test.YtabkfgkpofjeoaaDoorTrip0
set_option linter.unusedVariables false
set_option linter.unusedSimpArgs false
namespace Go.Proofs.YtabkfgkpofjeoaaDoor.PureEventChanged
open Go Go.Sy Go.Proofs.YtabkfgkpofjeoaaDoor.F Go.Proofs.YtabkfgkpofjeoaaDoor.Base Go.Proofs.YtabkfgkpofjeoaaDoor.Key0 Go.Proofs.YtabkfgkpofjeoaaDoor.Check0 Go.Proofs.YtabkfgkpofjeoaaDoor.Batch0 Go.Proofs.YtabkfgkpofjeoaaDoor.Mac0 Go.Proofs.YtabkfgkpofjeoaaDoor.Num0 Go.Proofs.YtabkfgkpofjeoaaDoor.Pack0 Go.Proofs.YtabkfgkpofjeoaaDoor.Data0 Go.Proofs.YtabkfgkpofjeoaaDoor.Change0 Go.Proofs.YtabkfgkpofjeoaaDoor.Read1 Go.Proofs.YtabkfgkpofjeoaaDoor.Unpack0 Go.Proofs.YtabkfgkpofjeoaaDoor.Code0 Go.Proofs.YtabkfgkpofjeoaaDoor.Trip0
theorem aw : law28_awake_C () = some (true, ()) := by kernel_rfl
theorem wb_bd (w s : Int) : 0 ≤ wb w s ∧ wb w s < 256 := by unfold wb; rw [IntKind.wrap_u8]; omega
theorem word_bytes (w : Int) : Bytes (word w) := by
  intro x hx
  unfold word at hx
  simp only [List.mem_cons, List.not_mem_nil, or_false] at hx
  rcases hx with rfl | rfl | rfl | rfl | rfl | rfl | rfl | rfl <;> exact wb_bd _ _
theorem bytes_app {a b : List Int} (ha : Bytes a) (hb : Bytes b) : Bytes (a ++ b) := fun x hx => (List.mem_append.1 hx).elim (ha x) (hb x)
theorem hd_bytes : ∀ k n, Bytes (hd k n)
  | 0, n => fun x hx => by cases hx
  | k + 1, n => by
    unfold hd
    split
    · intro x hx; cases hx
    · intro x hx
      rcases List.mem_cons.1 hx with rfl | hx
      · omega
      · exact hd_bytes k _ x hx
theorem nb_bytes {x : Int} (h : R64 x) : Bytes (nb x) := by
  have hz := zig_lt h.1 h.2
  have := lst_lt 9 (zig x) (by omega)
  unfold nb gr
  exact bytes_app (hd_bytes _ _) (fun y hy => by rw [List.mem_singleton.1 hy]; omega)
theorem bytesOf_bytes (s : ByteArray) : Bytes (bytesOf s) := by
  intro x hx
  unfold bytesOf at hx
  obtain ⟨b, _, rfl⟩ := List.mem_map.1 hx
  have := b.toNat_lt
  omega
theorem tb_bytes {s : ByteArray} (h : s.size ≤ 32) : Bytes (tb s) := bytes_app (nb_bytes (x := (s.size : Int)) ⟨by omega, by omega⟩) (bytesOf_bytes s)
theorem flat_bytes {X : Type} (g : X → List Int) : ∀ L : List X, (∀ x ∈ L, Bytes (g x)) → Bytes (L.flatMap g)
  | [], _ => fun x hx => by cases hx
  | y :: L, h => by
    rw [List.flatMap_cons]
    exact bytes_app (h y (by simp)) (flat_bytes g L (fun x hx => h x (by simp [hx])))
theorem eb_bytes {e : Ev} (h : Fit e) : Bytes (eb e) :=
  bytes_app (bytes_app (flat_bytes _ _ (fun x hx => nb_bytes (h.n x hx))) (flat_bytes _ _ (fun x hx => tb_bytes (h.t x hx)))) (flat_bytes _ _ (fun x hx => nb_bytes (h.m x hx)))
theorem body_bytes {b : Bt} (h : FitB b) : Bytes (body b) :=
  bytes_app (bytes_app (bytes_app (tb_bytes h.k) (nb_bytes h.s)) (nb_bytes (x := (b.2.2.1.length : Int)) ⟨by have := h.l; omega, by have := h.l; omega⟩)) (flat_bytes _ _ (fun e he => eb_bytes (h.e e he)))
/-- What is taken is laid down again as it stood. -/
theorem canon {L : List Int} (hb : Bytes L) (h : (Unpack0.unpack 0 L).2.1 = 0) : packB 0 (Unpack0.unpack 0 L).1 = L ∧ chkB (Unpack0.unpack 0 L).1 = 0 ∧ SizesB (Unpack0.unpack 0 L).1 ∧ NumsB (Unpack0.unpack 0 L).1 := by
  unfold Unpack0.unpack at h ⊢
  by_cases h8 : (L.length : Int) < 8
  · rw [decide_eq_true h8] at h; exact n16 h
  rw [decide_eq_false h8] at h ⊢
  simp only [cond_false] at h ⊢
  cases hs : seq (strOf (L.drop (L.length - 8))) (strOf (word (mac 0 (front L))))
  · rw [hs] at h; exact absurd (show (20 : Int) = 0 from h) (by decide)
  rw [hs] at h
  simp only [Bool.not_true, cond_false] at h ⊢
  have hw : L.drop (L.length - 8) = word (mac 0 (front L)) := by
    have := congrArg bytesOf (seq_iff.1 hs)
    rwa [bytesOf_strOf (hb.drop _), bytesOf_strOf (word_bytes _)] at this
  have hL : front L ++ word (mac 0 (front L)) = L := by
    rw [← hw]; exact List.take_append_drop _ _
  have hbf : Bytes (front L) := hb.take _
  unfold Unpack0.read at h ⊢
  by_cases he : endS (readB (front L)).2 = 0
  · rw [he] at h ⊢
    rw [show ((0 : Int) != 0) = false from rfl] at h ⊢
    simp only [cond_false] at h ⊢
    by_cases hc : chkB (readB (front L)).1 = 0
    · rw [hc]
      rw [show ((0 : Int) != 0) = false from rfl]
      simp only [cond_false]
      obtain ⟨h1, h2⟩ := readB_inv hbf he
      refine ⟨?_, hc, readB_sizes _, h2⟩
      unfold packB
      rw [← h1]
      exact hL
    · rw [ne_b hc] at h
      exact absurd h hc
  · rw [ne_b he] at h
    exact absurd h he
theorem unpack_e0 {L : List Int} (h : (Unpack0.unpack 0 L).2.1 ≠ 0) : (Unpack0.unpack 0 L).1 = e0 := by
  unfold Unpack0.unpack Unpack0.read at h ⊢
  cases h1 : decide ((L.length : Int) < 8)
  · rw [h1] at h
    cases h2 : seq (strOf (L.drop (L.length - 8))) (strOf (word (mac 0 (front L))))
    · rfl
    · rw [h2] at h
      cases h3 : (endS (readB (front L)).2 != 0)
      · rw [h3] at h
        cases h4 : (chkB (readB (front L)).1 != 0)
        · rw [h4] at h; exact absurd rfl h
        · rfl
      · rfl
  · rfl
theorem spoil_ok {l : List Int} (hl : Bytes l) (hn : l.length < 50000) {a k v : Int} (ha : 0 ≤ a ∧ a < 65536) (hv : 0 ≤ v ∧ v < 256) : Ret (fun r => Bytes r.1 ∧ r.1.length < 60000) (data_Spoil_C (l, a, k, v, ())) := by
  unfold data_Spoil_C data_Spoil_F
  simp only [List.nil_append]
  have b1 : ∀ i, Bytes (l.set i v) := fun i x hx => by
    rcases List.mem_or_eq_of_mem_set hx with hx | rfl
    · exact hl x hx
    · exact hv
  have bv : Bytes [v] := fun x hx => by rw [List.mem_singleton.1 hx]; exact hv
  refine Ret.guard (roomy_of (by omega)) ?_
  apply Ret.cond
  · intro h0
    have hpos : 0 < l.length := by rw [decide_eq_true_eq] at h0; omega
    refine Ret.guard (ne_b (by omega)) ?_
    obtain ⟨a, rfl⟩ := Int.eq_ofNat_of_zero_le ha.1
    rw [wrap_id (n := (a : Int)) (by omega) (by omega), show Int.tmod ((a : Nat) : Int) (l.length : Int) = ((a % l.length : Nat) : Int) from rfl]
    have hi : a % l.length < l.length := Nat.mod_lt _ hpos
    generalize a % l.length = i at hi
    have c1 : cutOk none (some ((i : Nat) : Int)) none l.length = true := by simp [cutOk]; omega
    have c2 : cutOk (some ((i : Nat) : Int)) none none l.length = true := by simp [cutOk]; omega
    have c3 : cutOk (some ((i : Int) + 1)) none none l.length = true := by simp [cutOk]; omega
    rw [wrap_id (n := (i : Int) + 1) (by omega) (by omega), c1, c2, c3, inb_true hi]
    simp only [cond_true, cutL, Int.toNat_natCast]
    rw [show ((i : Int) + 1).toNat = i + 1 by omega]
    have t1 : (l.take i).length ≤ l.length := by rw [List.length_take]; omega
    have t2 : (l.drop i).length ≤ l.length := by rw [List.length_drop]; omega
    have t3 : (l.drop (i + 1)).length ≤ l.length := by rw [List.length_drop]; omega
    rw [roomy_of (by omega), roomy_of (by simp only [List.length_singleton]; omega), roomy_of (by rw [List.length_append, List.length_singleton]; omega), roomy_of (by omega)]
    refine Ret.bind (Q := fun r => Bytes r.1.1 ∧ r.1.1.length < 60000) ?_ (fun r hr => Ret.some hr)
    apply Ret.cond
    · intro _
      apply Ret.cond
      · intro _; exact Ret.some ⟨b1 _, by show (l.set _ _).length < _; rw [List.length_set]; omega⟩
      · intro _; exact Ret.some ⟨hl, by show l.length < _; omega⟩
    intro _
    apply Ret.cond
    · intro _
      exact Ret.some ⟨bytes_app (bytes_app (hl.take _) bv) (hl.drop _), by show ((l.take i ++ [v]) ++ l.drop i).length < _; rw [List.length_append, List.length_append, List.length_take, List.length_drop, List.length_singleton]; omega⟩
    intro _
    apply Ret.cond
    · intro _
      apply Ret.cond
      · intro _; exact Ret.some ⟨bytes_app (hl.take _) (hl.drop _), by show (l.take i ++ l.drop (i + 1)).length < _; rw [List.length_append, List.length_take, List.length_drop]; omega⟩
      · intro _; exact Ret.some ⟨hl, by show l.length < _; omega⟩
    intro _
    apply Ret.cond
    · intro _; exact Ret.some ⟨hl.take _, by show (l.take i).length < _; omega⟩
    · intro _; exact Ret.some ⟨hl, by show l.length < _; omega⟩
  · intro h0
    have h0 : l = [] := by
      have : ¬ 0 < l.length := by simpa using h0
      exact List.length_eq_zero_iff.1 (by omega)
    subst h0
    refine Ret.bind (Q := fun r => Bytes r.1.1 ∧ r.1.1.length < 60000) ?_ (fun r hr => Ret.some hr)
    apply Ret.cond
    · intro _
      exact Ret.some ⟨hl, by decide⟩
    intro _
    apply Ret.cond
    · intro _
      exact Ret.some ⟨bv, by show [v].length < _; rw [List.length_singleton]; omega⟩
    intro _
    apply Ret.cond
    · intro _
      exact Ret.some ⟨hl, by decide⟩
    intro _
    apply Ret.cond
    · intro _
      exact Ret.some ⟨hl, by decide⟩
    · intro _
      exact Ret.some ⟨hl, by decide⟩
theorem true_ (l : List Int) (n1 n2 n3 n4 n5 : Int) (q : Bool) (hl : Wf (.slr (.int .u8)) l) (h1 : Wf (.int .u8) n1) (h2 : Wf (.int .u8) n2) (h3 : Wf (.int .u16) n3) (h4 : Wf (.int .u16) n4) (h5 : Wf (.int .u8) n5) (hq : Wf .bool q) : law28_EventChanged_C (l, n1, n2, n3, n4, n5, q, ()) = some (true, ()) := by
  apply Ret.true_
  unfold law28_EventChanged_C law28_EventChanged_F
  rw [aw, Option.bind_some]
  simp only [Bool.not_true, cond_false]
  have h1 := u8_of h1
  have h2 := u8_of h2
  have h5 := u8_of h5
  have h3 : 0 ≤ n3 ∧ n3 < 65536 := by
    have h' : (decide (IntKind.min .u16 ≤ n3) && decide (n3 ≤ IntKind.max .u16)) = true := h3
    rw [Bool.and_eq_true, decide_eq_true_eq, decide_eq_true_eq] at h'
    exact ⟨h'.1, by have : n3 ≤ 65535 := h'.2; omega⟩
  apply Ret.cond
  · intro _; exact Ret.some rfl
  intro _
  refine Ret.bind (batch_ok (okS_of hl) h1.1 h2) ?_
  rintro ⟨⟨c, m, evs, ⟨⟩⟩, _⟩ hst
  simp only at hst ⊢
  have hp : Pack0.pack 0 (c, m, evs, ()) = (packB 0 (c, m, evs, ()), 0, ()) := by unfold Pack0.pack; rw [hst.c]; rfl
  have hfit := FitB.of hst.n hst.c
  have hbl : (body (c, m, evs, ())).length ≤ 6100 := body_len hfit
  have hbb := body_bytes hfit
  rw [ref28_Pack_eq 0 _ hst.s hst.n, hp]
  simp only [Option.bind_some]
  have hpb : Bytes (packB 0 (c, m, evs, ())) := bytes_app hbb (word_bytes _)
  have hpl : (packB 0 (c, m, evs, ())).length ≤ 6108 := by unfold packB; rw [List.length_append, word_len]; omega
  generalize packB 0 (c, m, evs, ()) = L at hpb hpl
  -- the last part, for any bytes
  have last : ∀ X : List Int, Bytes X → X.length < 100000 → ∀ R : Prop, Ret (fun r : Bool × Unit => r.1 = true) (Option.bind (event_Unpack_C (0, X, ())) fun r12 =>
Option.bind (ref28_Unpack_C (0, X, ())) fun r13 =>
Option.bind (bif !(r12.1.2.1 != r13.1.2.1) then ref28_SameBatch_C ((r12.1.1.1, r12.1.1.2.1, r12.1.1.2.2.1, ()), (r13.1.1.1, r13.1.1.2.1, r13.1.1.2.2.1, ()), ()) else some (false, ())) fun r14 =>
bif (bif r12.1.2.1 != r13.1.2.1 then true else !r14.1) then
(some (false, ()))
else
bif r12.1.2.1 != 0 then
(some ((bif (r12.1.1.2.2.1.length : Int) == 0 then seq r12.1.1.1 (⟨#[]⟩ : ByteArray) else false), ()))
else
Option.bind (event_Pack_C (0, (r12.1.1.1, r12.1.1.2.1, r12.1.1.2.2.1, ()), ())) fun r15 =>
some ((bif r15.1.2.1 == 0 then seq (strOf r15.1.1) (strOf X) else false), ())) := by
    intro X hX hXl _
    rw [event_Unpack_eq 0 X hXl, ref28_Unpack_eq 0 X hXl]
    simp only [Option.bind_some]
    have hc := canon hX
    have h0 := @unpack_e0 X
    have hl := unpack_len 0 X
    generalize Unpack0.unpack 0 X = u at hc h0 hl
    obtain ⟨⟨uc, um, ue, ⟨⟩⟩, er, _⟩ := u
    simp only at hc h0 hl ⊢
    rw [show (er != er) = false by simp]
    simp only [Bool.not_false, cond_true, cond_false]
    rw [sameBatch (uc, um, ue, ()) (by simp only; omega)]
    simp only [Option.bind_some, Bool.not_true, cond_false]
    by_cases he : er = 0
    · obtain ⟨g1, g2, g3, g4⟩ := hc he
      rw [he, show ((0 : Int) != 0) = false from rfl, cond_false, event_Pack_eq 0 _ g3 g4, Option.bind_some]
      have hp : Pack0.pack 0 (uc, um, ue, ()) = (packB 0 (uc, um, ue, ()), 0, ()) := by unfold Pack0.pack; rw [g2]; rfl
      rw [hp, g1]
      simp only
      rw [show ((0 : Int) == 0) = true from rfl, seq_refl]
      exact Ret.some rfl
    · rw [ne_b he, cond_true]
      have := h0 he
      unfold e0 at this
      cases this
      exact Ret.some (seq_refl _)
  apply Ret.cond
  · intro hc
    have h8 : 8 < L.length := by
      cases q
      · cases hc
      · rw [cond_true, decide_eq_true_eq] at hc; omega
    rw [wrap_id (n := (L.length : Int) - 8) (by omega) (by omega), show (L.length : Int) - 8 = ((L.length - 8 : Nat) : Int) by omega]
    have c1 : cutOk none (some ((L.length - 8 : Nat) : Int)) none L.length = true := by simp [cutOk] <;> omega
    refine Ret.guard c1 ?_
    rw [show cutL L none (some ((L.length - 8 : Nat) : Int)) = L.take (L.length - 8) from rfl]
    refine Ret.bind (spoil_ok (hpb.take _) (by rw [List.length_take]; omega) h3 h5) ?_
    rintro ⟨X, _⟩ ⟨hX, hXl⟩
    simp only at hX hXl ⊢
    have hse : law28_sealed_C (X, ()) = some (X ++ word (mac 0 X), ()) := by
      unfold law28_sealed_C law28_sealed_F
      simp only
      rw [ref_Seal_eq 0 X (by omega)]
      rfl
    rw [hse, Option.bind_some]
    exact last _ (bytes_app hX (word_bytes _)) (by rw [List.length_append, word_len]; omega) True
  · intro _
    refine Ret.bind (spoil_ok hpb (by omega) h3 h5) ?_
    rintro ⟨X, _⟩ ⟨hX, hXl⟩
    exact last X hX (by simp only at hXl; omega) True
end Go.Proofs.YtabkfgkpofjeoaaDoor.PureEventChanged
