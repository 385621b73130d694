/- Pack: the program's and the document's. -/
import Derived.Test.YtabkfgkpofjeoaaDoorBatch0
import Derived.Test.YtabkfgkpofjeoaaDoorNum0
import Derived.Test.YtabkfgkpofjeoaaDoorMac0
set_option linter.unusedVariables false
set_option linter.unusedSimpArgs false
set_option maxRecDepth 100000
namespace Go.Proofs.YtabkfgkpofjeoaaDoor.Pack0
open Go Go.Sy Go.Proofs.YtabkfgkpofjeoaaDoor.F Go.Proofs.YtabkfgkpofjeoaaDoor.Base Go.Proofs.YtabkfgkpofjeoaaDoor.Key0 Go.Proofs.YtabkfgkpofjeoaaDoor.Check0 Go.Proofs.YtabkfgkpofjeoaaDoor.Batch0 Go.Proofs.YtabkfgkpofjeoaaDoor.Num0 Go.Proofs.YtabkfgkpofjeoaaDoor.Mac0
/-- A loop that lays the bytes of a list's elements behind one another. -/
theorem fold_loop {α R X : Type} (f : (α → Option R) → α → Option R) (st : Nat → List Int → α) (out : List Int → R) (g : X → List Int) (L : List X) (M : Nat)
    (hg : ∀ x ∈ L, (g x).length ≤ 300)
    (h1 : ∀ acc self, f self (st L.length acc) = some (out acc))
    (h2 : ∀ i (h : i < L.length) acc self, acc.length < M → f self (st i acc) = self (st (i + 1) (acc ++ g (L[i]'h)))) :
    ∀ k i acc fuel, i + k = L.length → k < fuel → acc.length + 300 * k < M → iter fuel f (st i acc) = some (out (acc ++ (L.drop i).flatMap g))
  | _, _, _, 0, _, hf, _ => absurd hf (Nat.not_lt_zero _)
  | 0, i, acc, fuel + 1, hi, _, _ => by
    show f (iter fuel f) (st i acc) = _
    have e : i = L.length := by omega
    subst e
    rw [h1, List.drop_length]
    simp
  | k + 1, i, acc, fuel + 1, hi, hf, hr => by
    show f (iter fuel f) (st i acc) = _
    have hl : i < L.length := by omega
    have := hg _ (List.getElem_mem hl)
    rw [h2 i hl acc _ (by omega), fold_loop f st out g L M hg h1 h2 k (i + 1) _ fuel (by omega) (by omega) (by rw [List.length_append]; omega)]
    rw [List.drop_eq_getElem_cons hl, List.flatMap_cons, List.append_assoc]
theorem fold0 {α R X : Type} {f : (α → Option R) → α → Option R} {x0 : α} (st : Nat → List Int → α) (out : List Int → R) (g : X → List Int) (L : List X) (acc : List Int) (M : Nat) {fuel : Nat}
    (h0 : st 0 acc = x0) (hf : L.length < fuel) (hr : acc.length + 300 * L.length < M)
    (hg : ∀ x ∈ L, (g x).length ≤ 300)
    (h1 : ∀ acc self, f self (st L.length acc) = some (out acc))
    (h2 : ∀ i (h : i < L.length) acc self, acc.length < M → f self (st i acc) = self (st (i + 1) (acc ++ g (L[i]'h)))) : iter fuel f x0 = some (out (acc ++ L.flatMap g)) := by
  rw [← h0, fold_loop f st out g L M hg h1 h2 L.length 0 acc fuel (by omega) hf hr, List.drop_zero]
def nb (x : Int) : List Int := gr (zig x)
def tb (s : ByteArray) : List Int := gr (zig (s.size : Int)) ++ bytesOf s
def eb (e : Ev) : List Int := (([e.2.1, e.2.2.1, e.2.2.2.1].flatMap nb) ++ ([e.2.2.2.2.1, e.2.2.2.2.2.1, e.2.2.2.2.2.2.1].flatMap tb)) ++ ([e.2.2.2.2.2.2.2.1, e.2.2.2.2.2.2.2.2.1, e.2.2.2.2.2.2.2.2.2.1].flatMap nb)
def body (b : Bt) : List Int := ((tb b.1 ++ nb b.2.1) ++ nb (b.2.2.1.length : Int)) ++ b.2.2.1.flatMap eb
def R64 (x : Int) : Prop := -9223372036854775808 ≤ x ∧ x ≤ 9223372036854775807
/-- An event that can be laid down. -/
structure Fit (e : Ev) : Prop where
  n : ∀ x ∈ [e.2.1, e.2.2.1, e.2.2.2.1], R64 x
  t : ∀ s ∈ [e.2.2.2.2.1, e.2.2.2.2.2.1, e.2.2.2.2.2.2.1], ByteArray.size s ≤ 32
  m : ∀ x ∈ [e.2.2.2.2.2.2.2.1, e.2.2.2.2.2.2.2.2.1, e.2.2.2.2.2.2.2.2.2.1], R64 x
structure FitB (b : Bt) : Prop where
  k : b.1.size ≤ 32
  s : R64 b.2.1
  l : b.2.2.1.length ≤ 32
  e : ∀ e ∈ b.2.2.1, Fit e
theorem nb_len (x : Int) : (nb x).length ≤ 10 := gr_len _
theorem tb_len {s : ByteArray} (h : s.size ≤ 32) : (tb s).length ≤ 42 := by
  unfold tb; rw [List.length_append, bytes_len]; have := gr_len (zig (s.size : Int)); omega
theorem flat3 {X : Type} (g : X → List Int) (B : Nat) (a b c : X) (h : ∀ x ∈ [a, b, c], (g x).length ≤ B) : ([a, b, c].flatMap g).length ≤ 3 * B := by
  have h1 := h a (by simp); have h2 := h b (by simp); have h3 := h c (by simp)
  simp only [List.flatMap_cons, List.flatMap_nil, List.length_append, List.length_nil]; omega
theorem eb_len {e : Ev} (h : Fit e) : (eb e).length ≤ 186 := by
  unfold eb
  have h1 := flat3 nb 10 e.2.1 e.2.2.1 e.2.2.2.1 (fun x _ => nb_len x)
  have h2 := flat3 tb 42 e.2.2.2.2.1 e.2.2.2.2.2.1 e.2.2.2.2.2.2.1 (fun x hx => tb_len (h.t x hx))
  have h3 := flat3 nb 10 e.2.2.2.2.2.2.2.1 e.2.2.2.2.2.2.2.2.1 e.2.2.2.2.2.2.2.2.2.1 (fun x _ => nb_len x)
  simp only [List.length_append]; omega
theorem flat_len {X : Type} (g : X → List Int) (B : Nat) : ∀ L : List X, (∀ x ∈ L, (g x).length ≤ B) → (L.flatMap g).length ≤ L.length * B
  | [], _ => by simp
  | x :: L, h => by
    have h1 := h x (by simp)
    have h2 := flat_len g B L (fun y hy => h y (by simp [hy]))
    simp only [List.flatMap_cons, List.length_append, List.length_cons, Nat.add_mul]
    omega
theorem body_len {b : Bt} (h : FitB b) : (body b).length ≤ 6100 := by
  unfold body
  have h1 := tb_len h.k
  have h2 := nb_len b.2.1
  have h3 := nb_len (b.2.2.1.length : Int)
  have h4 := flat_len eb 186 b.2.2.1 (fun e he => eb_len (h.e e he))
  have h5 := Nat.mul_le_mul_right 186 h.l
  simp only [List.length_append]; omega
theorem put3 {a : List Int} {x : Int} (h : R64 x) (ha : a.length < 500000) : wire_PutNumber_C (a, x, ()) = some (a ++ nb x, ()) := putNumber_eq h.1 h.2 (by omega)
theorem rput3 {a : List Int} {x : Int} (h : R64 x) (ha : a.length < 500000) : ref4_PutNumber_C (a, x, ()) = some (a ++ nb x, ()) := rputNumber_eq h.1 h.2 (by omega)
theorem text3 {a : List Int} {s : ByteArray} (h : s.size ≤ 32) (ha : a.length < 500000) : wire_PutText_C (a, s, ()) = some (a ++ tb s, ()) := putText_eq (by omega)
theorem rtext3 {a : List Int} {s : ByteArray} (h : s.size ≤ 32) (ha : a.length < 500000) : ref4_PutText_C (a, s, ()) = some (a ++ tb s, ()) := rputText_eq (by omega)
theorem getD_at {X : Type} {L : List X} {i : Nat} (h : i < L.length) (d : X) : L.getD i d = L[i]'h := by
  rw [List.getD_eq_getElem?_getD, List.getElem?_eq_getElem h]; rfl
def packB (k : Int) (b : Bt) : List Int := body b ++ word (mac k (body b))
theorem event_Pack_fit (k : Int) (b : Bt) (hs : SizesB b) (h : FitB b) (hc : chkB b = 0) : event_Pack_C (k, b, ()) = some ((packB k b, 0, ()), ()) := by
  unfold event_Pack_C event_Pack_F
  simp only
  rw [event_CheckBatch_eq b hs, Option.bind_some, hc]
  simp only
  rw [show ((0 : Int) != 0) = false from rfl, cond_false]
  have hk := tb_len h.k
  have hl := h.l
  have h1 := nb_len b.2.1
  have h2 := nb_len (b.2.2.1.length : Int)
  rw [text3 h.k (by simp), Option.bind_some]
  simp only
  rw [put3 h.s (by simp; omega), Option.bind_some]
  simp only
  rw [put3 ⟨by omega, by omega⟩ (by simp; omega), Option.bind_some]
  simp only [List.nil_append]
  rw [fold0 (x0 := ((k, (), b.2.2.1, (b.2.2.1.length : Int), 0, ()), (), (tb b.1 ++ nb b.2.1) ++ nb (b.2.2.1.length : Int), ())) (fun i acc => ((k, (), b.2.2.1, (b.2.2.1.length : Int), (i : Int), ()), (), acc, ())) (fun acc => ((k, (), ()), (), acc, ())) eb b.2.2.1 ((tb b.1 ++ nb b.2.1) ++ nb (b.2.2.1.length : Int)) 100000 rfl (by omega) (by simp only [List.length_append]; omega) (fun e he => by have := eb_len (h.e e he); omega)]
  · rw [Option.bind_some]
    simp only
    rw [show ((tb b.1 ++ nb b.2.1) ++ nb (b.2.2.1.length : Int)) ++ b.2.2.1.flatMap eb = body b from rfl]
    have hb := body_len h
    rw [dmac k (body b) (by omega), Option.bind_some]
    simp only
    rw [putWord_eq _ (by omega), Option.bind_some]
    rfl
  · intro acc self
    simp only
    rw [show decide ((b.2.2.1.length : Int) < (b.2.2.1.length : Int)) = false by simp]
    rfl
  · intro i hi acc self ha
    simp only
    rw [show decide ((i : Int) < (b.2.2.1.length : Int)) = true by simp; omega, inb_true hi, Int.toNat_natCast]
    rw [show ((⟨#[]⟩ : ByteArray), (0 : Int), (0 : Int), (0 : Int), (⟨#[]⟩ : ByteArray), (⟨#[]⟩ : ByteArray), (⟨#[]⟩ : ByteArray), (0 : Int), (0 : Int), (0 : Int), ()) = dE from rfl, getD_at hi dE]
    simp only [cond_true]
    have he := h.e _ (List.getElem_mem hi)
    generalize b.2.2.1[i] = e at he ⊢
    rw [fold0 (x0 := ((k, (), (), b.2.2.1, (b.2.2.1.length : Int), (i : Int), (), ([e.2.1, e.2.2.1, e.2.2.2.1].length : Int), 0, ()), (e, ()), acc, [e.2.1, e.2.2.1, e.2.2.2.1], ())) (fun j acc => ((k, (), (), b.2.2.1, (b.2.2.1.length : Int), (i : Int), (), ([e.2.1, e.2.2.1, e.2.2.2.1].length : Int), (j : Int), ()), (e, ()), acc, [e.2.1, e.2.2.1, e.2.2.2.1], ())) (fun acc => ((k, (), (), b.2.2.1, (b.2.2.1.length : Int), (i : Int), ()), (e, ()), acc, ())) nb [e.2.1, e.2.2.1, e.2.2.2.1] acc 500000 rfl (by simp) (by simp; omega) (fun x _ => by have := nb_len x; omega)]
    · rw [Option.bind_some]
      simp only
      have hq1 := flat3 nb 10 e.2.1 e.2.2.1 e.2.2.2.1 (fun x _ => nb_len x)
      rw [fold0 (x0 := ((k, (), (), b.2.2.1, (b.2.2.1.length : Int), (i : Int), (), ([e.2.2.2.2.1, e.2.2.2.2.2.1, e.2.2.2.2.2.2.1].length : Int), 0, ()), (e, ()), acc ++ [e.2.1, e.2.2.1, e.2.2.2.1].flatMap nb, [e.2.2.2.2.1, e.2.2.2.2.2.1, e.2.2.2.2.2.2.1], ())) (fun j acc => ((k, (), (), b.2.2.1, (b.2.2.1.length : Int), (i : Int), (), ([e.2.2.2.2.1, e.2.2.2.2.2.1, e.2.2.2.2.2.2.1].length : Int), (j : Int), ()), (e, ()), acc, [e.2.2.2.2.1, e.2.2.2.2.2.1, e.2.2.2.2.2.2.1], ())) (fun acc => ((k, (), (), b.2.2.1, (b.2.2.1.length : Int), (i : Int), ()), (e, ()), acc, ())) tb [e.2.2.2.2.1, e.2.2.2.2.2.1, e.2.2.2.2.2.2.1] _ 500000 rfl (by simp) (by rw [List.length_append]; simp only [List.length_cons, List.length_nil]; omega) (fun x hx => by have := tb_len (he.t x hx); omega)]
      · rw [Option.bind_some]
        simp only
        have hq2 := flat3 tb 42 e.2.2.2.2.1 e.2.2.2.2.2.1 e.2.2.2.2.2.2.1 (fun x hx => tb_len (he.t x hx))
        rw [fold0 (x0 := ((k, (), b.2.2.1, (b.2.2.1.length : Int), (i : Int), (), ([e.2.2.2.2.2.2.2.1, e.2.2.2.2.2.2.2.2.1, e.2.2.2.2.2.2.2.2.2.1].length : Int), 0, ()), (), (acc ++ [e.2.1, e.2.2.1, e.2.2.2.1].flatMap nb) ++ [e.2.2.2.2.1, e.2.2.2.2.2.1, e.2.2.2.2.2.2.1].flatMap tb, [e.2.2.2.2.2.2.2.1, e.2.2.2.2.2.2.2.2.1, e.2.2.2.2.2.2.2.2.2.1], ())) (fun j acc => ((k, (), b.2.2.1, (b.2.2.1.length : Int), (i : Int), (), ([e.2.2.2.2.2.2.2.1, e.2.2.2.2.2.2.2.2.1, e.2.2.2.2.2.2.2.2.2.1].length : Int), (j : Int), ()), (), acc, [e.2.2.2.2.2.2.2.1, e.2.2.2.2.2.2.2.2.1, e.2.2.2.2.2.2.2.2.2.1], ())) (fun acc => ((k, (), b.2.2.1, (b.2.2.1.length : Int), (i : Int), ()), (), acc, ())) nb [e.2.2.2.2.2.2.2.1, e.2.2.2.2.2.2.2.2.1, e.2.2.2.2.2.2.2.2.2.1] _ 500000 rfl (by simp) (by rw [List.length_append, List.length_append]; simp only [List.length_cons, List.length_nil]; omega) (fun x _ => by have := nb_len x; omega)]
        · rw [Option.bind_some]
          simp only
          rw [wrap_id (by omega) (by omega), eb, ← List.append_assoc, ← List.append_assoc]
          rfl
        · intro acc self; rfl
        · intro j hj acc self ha
          simp only
          rw [show decide ((j : Int) < ([e.2.2.2.2.2.2.2.1, e.2.2.2.2.2.2.2.2.1, e.2.2.2.2.2.2.2.2.2.1].length : Int)) = true by simp at hj ⊢; omega, inb_true hj, Int.toNat_natCast, getD_at hj, put3 (he.m _ (List.getElem_mem hj)) ha, wrap_id (by simp at hj ⊢; omega) (by simp at hj ⊢; omega)]
          rfl
      · intro acc self; rfl
      · intro j hj acc self ha
        simp only
        rw [show decide ((j : Int) < ([e.2.2.2.2.1, e.2.2.2.2.2.1, e.2.2.2.2.2.2.1].length : Int)) = true by simp at hj ⊢; omega, inb_true hj, Int.toNat_natCast, getD_at hj, text3 (he.t _ (List.getElem_mem hj)) ha, wrap_id (by simp at hj ⊢; omega) (by simp at hj ⊢; omega)]
        rfl
    · intro acc self; rfl
    · intro j hj acc self ha
      simp only
      rw [show decide ((j : Int) < ([e.2.1, e.2.2.1, e.2.2.2.1].length : Int)) = true by simp at hj ⊢; omega, inb_true hj, Int.toNat_natCast, getD_at hj, put3 (he.n _ (List.getElem_mem hj)) ha, wrap_id (by simp at hj ⊢; omega) (by simp at hj ⊢; omega)]
      rfl
theorem ref_Seal_eq (k : Int) (l : List Int) (h : l.length < 500000) : ref28_Seal_C (k, l, ()) = some (l ++ word (mac k l), ()) := by
  unfold ref28_Seal_C ref28_Seal_F
  simp only
  rw [roomy_of (by omega), rmac k l (by omega)]
  simp only [cond_true, Option.bind_some, List.nil_append]
  rw [rputWord_eq _ (by omega), Option.bind_some]
theorem ref28_Pack_fit (k : Int) (b : Bt) (hs : SizesB b) (h : FitB b) (hc : chkB b = 0) : ref28_Pack_C (k, b, ()) = some ((packB k b, 0, ()), ()) := by
  unfold ref28_Pack_C ref28_Pack_F
  simp only
  rw [ref28_CheckBatch_eq b hs, Option.bind_some, hc]
  simp only
  rw [show ((0 : Int) != 0) = false from rfl, cond_false]
  have hk := tb_len h.k
  have hl := h.l
  have h1 := nb_len b.2.1
  have h2 := nb_len (b.2.2.1.length : Int)
  rw [rtext3 h.k (by simp), Option.bind_some]
  simp only
  rw [rput3 h.s (by simp; omega), Option.bind_some]
  simp only
  rw [rput3 ⟨by omega, by omega⟩ (by simp; omega), Option.bind_some]
  simp only [List.nil_append]
  rw [fold0 (x0 := ((k, (), (), 0, ()), (b, ()), (tb b.1 ++ nb b.2.1) ++ nb (b.2.2.1.length : Int), ())) (fun i acc => ((k, (), (), (i : Int), ()), (b, ()), acc, ())) (fun acc => ((k, (), ()), (), acc, ())) eb b.2.2.1 ((tb b.1 ++ nb b.2.1) ++ nb (b.2.2.1.length : Int)) 100000 rfl (by omega) (by simp only [List.length_append]; omega) (fun e he => by have := eb_len (h.e e he); omega)]
  · rw [Option.bind_some]
    simp only
    rw [show ((tb b.1 ++ nb b.2.1) ++ nb (b.2.2.1.length : Int)) ++ b.2.2.1.flatMap eb = body b from rfl]
    have hb := body_len h
    rw [ref_Seal_eq _ _ (by omega), Option.bind_some]
    rfl
  · intro acc self
    simp only
    rw [show decide ((b.2.2.1.length : Int) < (b.2.2.1.length : Int)) = false by simp]
    rfl
  · intro i hi acc self ha
    simp only
    rw [show decide ((i : Int) < (b.2.2.1.length : Int)) = true by simp; omega, inb_true hi, Int.toNat_natCast]
    rw [show ((⟨#[]⟩ : ByteArray), (0 : Int), (0 : Int), (0 : Int), (⟨#[]⟩ : ByteArray), (⟨#[]⟩ : ByteArray), (⟨#[]⟩ : ByteArray), (0 : Int), (0 : Int), (0 : Int), ()) = dE from rfl, getD_at hi dE]
    simp only [cond_true]
    have he := h.e _ (List.getElem_mem hi)
    generalize b.2.2.1[i] = e at he ⊢
    rw [fold0 (x0 := ((k, (), (), (i : Int), (), (), (), 0, ()), (b, ()), acc, [e.2.1, e.2.2.1, e.2.2.2.1], [e.2.2.2.2.1, e.2.2.2.2.2.1, e.2.2.2.2.2.2.1], [e.2.2.2.2.2.2.2.1, e.2.2.2.2.2.2.2.2.1, e.2.2.2.2.2.2.2.2.2.1], ())) (fun j acc => ((k, (), (), (i : Int), (), (), (), (j : Int), ()), (b, ()), acc, [e.2.1, e.2.2.1, e.2.2.2.1], [e.2.2.2.2.1, e.2.2.2.2.2.1, e.2.2.2.2.2.2.1], [e.2.2.2.2.2.2.2.1, e.2.2.2.2.2.2.2.2.1, e.2.2.2.2.2.2.2.2.2.1], ())) (fun acc => ((k, (), (), (i : Int), (), (), ()), (b, ()), acc, [e.2.2.2.2.1, e.2.2.2.2.2.1, e.2.2.2.2.2.2.1], [e.2.2.2.2.2.2.2.1, e.2.2.2.2.2.2.2.2.1, e.2.2.2.2.2.2.2.2.2.1], ())) nb [e.2.1, e.2.2.1, e.2.2.2.1] acc 500000 rfl (by simp) (by simp; omega) (fun x _ => by have := nb_len x; omega)]
    · rw [Option.bind_some]
      simp only
      have hq1 := flat3 nb 10 e.2.1 e.2.2.1 e.2.2.2.1 (fun x _ => nb_len x)
      rw [fold0 (x0 := ((k, (), (), (i : Int), (), (), 0, ()), (b, ()), acc ++ [e.2.1, e.2.2.1, e.2.2.2.1].flatMap nb, [e.2.2.2.2.1, e.2.2.2.2.2.1, e.2.2.2.2.2.2.1], [e.2.2.2.2.2.2.2.1, e.2.2.2.2.2.2.2.2.1, e.2.2.2.2.2.2.2.2.2.1], ())) (fun j acc => ((k, (), (), (i : Int), (), (), (j : Int), ()), (b, ()), acc, [e.2.2.2.2.1, e.2.2.2.2.2.1, e.2.2.2.2.2.2.1], [e.2.2.2.2.2.2.2.1, e.2.2.2.2.2.2.2.2.1, e.2.2.2.2.2.2.2.2.2.1], ())) (fun acc => ((k, (), (), (i : Int), (), ()), (b, ()), acc, [e.2.2.2.2.2.2.2.1, e.2.2.2.2.2.2.2.2.1, e.2.2.2.2.2.2.2.2.2.1], ())) tb [e.2.2.2.2.1, e.2.2.2.2.2.1, e.2.2.2.2.2.2.1] _ 500000 rfl (by simp) (by rw [List.length_append]; simp only [List.length_cons, List.length_nil]; omega) (fun x hx => by have := tb_len (he.t x hx); omega)]
      · rw [Option.bind_some]
        simp only
        have hq2 := flat3 tb 42 e.2.2.2.2.1 e.2.2.2.2.2.1 e.2.2.2.2.2.2.1 (fun x hx => tb_len (he.t x hx))
        rw [fold0 (x0 := ((k, (), (), (i : Int), (), 0, ()), (b, ()), (acc ++ [e.2.1, e.2.2.1, e.2.2.2.1].flatMap nb) ++ [e.2.2.2.2.1, e.2.2.2.2.2.1, e.2.2.2.2.2.2.1].flatMap tb, [e.2.2.2.2.2.2.2.1, e.2.2.2.2.2.2.2.2.1, e.2.2.2.2.2.2.2.2.2.1], ())) (fun j acc => ((k, (), (), (i : Int), (), (j : Int), ()), (b, ()), acc, [e.2.2.2.2.2.2.2.1, e.2.2.2.2.2.2.2.2.1, e.2.2.2.2.2.2.2.2.2.1], ())) (fun acc => ((k, (), (), (i : Int), ()), (b, ()), acc, ())) nb [e.2.2.2.2.2.2.2.1, e.2.2.2.2.2.2.2.2.1, e.2.2.2.2.2.2.2.2.2.1] _ 500000 rfl (by simp) (by rw [List.length_append, List.length_append]; simp only [List.length_cons, List.length_nil]; omega) (fun x _ => by have := nb_len x; omega)]
        · rw [Option.bind_some]
          simp only
          rw [wrap_id (by omega) (by omega), eb, ← List.append_assoc, ← List.append_assoc]
          rfl
        · intro acc self; rfl
        · intro j hj acc self ha
          simp only
          rw [show decide ((j : Int) < 3) = true by simp at hj ⊢; omega, inb_true hj, Int.toNat_natCast, getD_at hj, rput3 (he.m _ (List.getElem_mem hj)) ha, wrap_id (by simp at hj ⊢; omega) (by simp at hj ⊢; omega)]
          rfl
      · intro acc self; rfl
      · intro j hj acc self ha
        simp only
        rw [show decide ((j : Int) < 3) = true by simp at hj ⊢; omega, inb_true hj, Int.toNat_natCast, getD_at hj, rtext3 (he.t _ (List.getElem_mem hj)) ha, wrap_id (by simp at hj ⊢; omega) (by simp at hj ⊢; omega)]
        rfl
    · intro acc self; rfl
    · intro j hj acc self ha
      simp only
      rw [show decide ((j : Int) < 3) = true by simp at hj ⊢; omega, inb_true hj, Int.toNat_natCast, getD_at hj, rput3 (he.n _ (List.getElem_mem hj)) ha, wrap_id (by simp at hj ⊢; omega) (by simp at hj ⊢; omega)]
      rfl
/-- What Pack answers. -/
def pack (k : Int) (b : Bt) : List Int × Int × Unit := bif chkB b != 0 then ([], chkB b, ()) else (packB k b, 0, ())
theorem keyB_size {s : ByteArray} (h : keyB s = true) : s.size ≤ 32 := by
  unfold keyB at h
  simp at h
  omega
theorem seq_empty {s : ByteArray} (h : seq s ⟨#[]⟩ = true) : s.size ≤ 32 := by
  rw [seq_iff.1 h]; decide
theorem cb1 (k1 k2 k3 k4 s1 s2 t1 t2 v1 v2 a1 a2 m1 m2 o vn an wn nn oi : Bool) (h : checkB true false false k1 k2 k3 k4 s1 s2 t1 t2 v1 v2 a1 a2 m1 m2 o vn an wn nn oi = 0) : k2 = true ∧ k3 = true ∧ o = false := by
  cases k1; · exact absurd (show (6:Int) = 0 from h) (by decide)
  cases k2; · exact absurd (show (6:Int) = 0 from h) (by decide)
  cases k3; · exact absurd (show (6:Int) = 0 from h) (by decide)
  cases s1; rotate_left; · exact absurd (show (3:Int) = 0 from h) (by decide)
  cases s2; rotate_left; · exact absurd (show (3:Int) = 0 from h) (by decide)
  cases t1; rotate_left; · exact absurd (show (3:Int) = 0 from h) (by decide)
  cases t2; rotate_left; · exact absurd (show (3:Int) = 0 from h) (by decide)
  cases v1; rotate_left; · exact absurd (show (3:Int) = 0 from h) (by decide)
  cases v2; rotate_left; · exact absurd (show (3:Int) = 0 from h) (by decide)
  cases a1; rotate_left; · exact absurd (show (3:Int) = 0 from h) (by decide)
  cases a2; rotate_left; · exact absurd (show (3:Int) = 0 from h) (by decide)
  cases o; rotate_left; · exact absurd (show (15:Int) = 0 from h) (by decide)
  exact ⟨rfl, rfl, rfl⟩
theorem cb2 (k1 k2 k3 k4 s1 s2 t1 t2 v1 v2 a1 a2 m1 m2 o vn an wn nn oi : Bool) (h : checkB false true false k1 k2 k3 k4 s1 s2 t1 t2 v1 v2 a1 a2 m1 m2 o vn an wn nn oi = 0) : k2 = true ∧ k3 = true ∧ o = false := by
  cases k1; · exact absurd (show (6:Int) = 0 from h) (by decide)
  cases k2; · exact absurd (show (6:Int) = 0 from h) (by decide)
  cases k3; · exact absurd (show (6:Int) = 0 from h) (by decide)
  cases s1; rotate_left; · exact absurd (show (3:Int) = 0 from h) (by decide)
  cases s2; rotate_left; · exact absurd (show (3:Int) = 0 from h) (by decide)
  cases t1; rotate_left; · exact absurd (show (3:Int) = 0 from h) (by decide)
  cases t2; rotate_left; · exact absurd (show (3:Int) = 0 from h) (by decide)
  cases m1; rotate_left; · exact absurd (show (3:Int) = 0 from h) (by decide)
  cases m2; rotate_left; · exact absurd (show (3:Int) = 0 from h) (by decide)
  cases o; rotate_left; · exact absurd (show (15:Int) = 0 from h) (by decide)
  exact ⟨rfl, rfl, rfl⟩
theorem cb3 (k1 k2 k3 k4 s1 s2 t1 t2 v1 v2 a1 a2 m1 m2 o vn an wn nn oi : Bool) (h : checkB false false true k1 k2 k3 k4 s1 s2 t1 t2 v1 v2 a1 a2 m1 m2 o vn an wn nn oi = 0) : k2 = true ∧ k4 = true ∧ nn = false := by
  cases k1; · exact absurd (show (6:Int) = 0 from h) (by decide)
  cases k2; · exact absurd (show (6:Int) = 0 from h) (by decide)
  cases k4; · exact absurd (show (6:Int) = 0 from h) (by decide)
  cases s1; rotate_left; · exact absurd (show (3:Int) = 0 from h) (by decide)
  cases s2; rotate_left; · exact absurd (show (3:Int) = 0 from h) (by decide)
  cases t1; rotate_left; · exact absurd (show (3:Int) = 0 from h) (by decide)
  cases t2; rotate_left; · exact absurd (show (3:Int) = 0 from h) (by decide)
  cases nn; rotate_left; · exact absurd (show (15:Int) = 0 from h) (by decide)
  exact ⟨rfl, rfl, rfl⟩
theorem not_seq {s : ByteArray} (h : (!seq s ⟨#[]⟩) = false) : s.size ≤ 32 := seq_empty (by simpa using h)
theorem check_sizes {e : Ev} (h : check e = 0) : e.2.2.2.2.1.size ≤ 32 ∧ e.2.2.2.2.2.1.size ≤ 32 ∧ e.2.2.2.2.2.2.1.size ≤ 32 := by
  unfold check at h
  rcases kinds e.2.2.1 with ⟨x1, x2, x3⟩ | ⟨x1, x2, x3⟩ | ⟨x1, x2, x3⟩ | ⟨x1, x2, x3⟩ <;> rw [x1, x2, x3] at h
  · obtain ⟨a, b, c⟩ := cb1 _ _ _ _ _ _ _ _ _ _ _ _ _ _ _ _ _ _ _ _ h
    exact ⟨keyB_size a, keyB_size b, not_seq c⟩
  · obtain ⟨a, b, c⟩ := cb2 _ _ _ _ _ _ _ _ _ _ _ _ _ _ _ _ _ _ _ _ h
    exact ⟨keyB_size a, keyB_size b, not_seq c⟩
  · obtain ⟨a, b, c⟩ := cb3 _ _ _ _ _ _ _ _ _ _ _ _ _ _ _ _ _ _ _ _ h
    exact ⟨keyB_size a, not_seq c, keyB_size b⟩
  · exact absurd (show (7 : Int) = 0 from h) (by decide)
theorem from_zero (b : Bt) : ∀ k i, fromB b k i = 0 → ∀ j, i ≤ j → j < i + k → stepB b j = 0
  | 0, i, _, j, h1, h2 => by omega
  | k + 1, i, h, j, h1, h2 => by
    rw [fromB] at h
    by_cases hz : stepB b i = 0
    · rw [hz] at h
      by_cases e : j = i
      · rw [e]; exact hz
      · exact from_zero b k (i + 1) (by simpa using h) j (by omega) (by omega)
    · rw [show (stepB b i != 0) = true by simpa using hz] at h
      exact absurd h hz
theorem step_zero {b : Bt} {i : Nat} (h : stepB b i = 0) : check (b.2.2.1.getD i dE) = 0 ∧ seq (b.2.2.1.getD i dE).1 b.1 = true := by
  unfold stepB at h
  by_cases hz : check (b.2.2.1.getD i dE) = 0
  · rw [hz] at h
    refine ⟨hz, ?_⟩
    cases hs : seq (b.2.2.1.getD i dE).1 b.1
    · rw [hs] at h; exact absurd (show (15 : Int) = 0 from h) (by decide)
    · rfl
  · rw [show (check (b.2.2.1.getD i dE) != 0) = true by simpa using hz] at h
    exact absurd h hz
theorem chk_zero {b : Bt} (h : chkB b = 0) : keyB b.1 = true ∧ b.2.2.1.length ≤ 32 ∧ ∀ i, i < b.2.2.1.length → stepB b i = 0 := by
  unfold chkB at h
  cases h1 : keyB b.1
  · rw [h1] at h; exact absurd (show (6 : Int) = 0 from h) (by decide)
  rw [h1] at h
  cases h2 : (bif decide (b.2.1 < 1) then true else decide (b.2.1 > 1073741825))
  · rw [h2] at h
    by_cases h3 : (b.2.2.1.length : Int) > 32
    · rw [decide_eq_true h3] at h; exact absurd (show (5 : Int) = 0 from h) (by decide)
    · rw [decide_eq_false h3] at h
      exact ⟨rfl, by omega, fun i hi => from_zero b _ 0 h i (by omega) (by omega)⟩
  · rw [h2] at h; exact absurd (show (3 : Int) = 0 from h) (by decide)
theorem r64_of {x : Int} (h : (Lit.int .i64 x).wf = true) : R64 x := by
  have h' : (decide (IntKind.min .i64 ≤ x) && decide (x ≤ IntKind.max .i64)) = true := h
  rw [Bool.and_eq_true, decide_eq_true_eq, decide_eq_true_eq] at h'
  exact ⟨h'.1, h'.2⟩
structure NumsE (e : Ev) : Prop where
  n : ∀ x ∈ [e.2.1, e.2.2.1, e.2.2.2.1], R64 x
  m : ∀ x ∈ [e.2.2.2.2.2.2.2.1, e.2.2.2.2.2.2.2.2.1, e.2.2.2.2.2.2.2.2.2.1], R64 x
theorem NumsE.of {e : Ev} (h : Wf EvT e) : NumsE e := by
  obtain ⟨_, h1, h2, h3, _, _, _, h4, h5, h6, _⟩ := h
  have h1 := r64_of h1; have h2 := r64_of h2; have h3 := r64_of h3; have h4 := r64_of h4; have h5 := r64_of h5; have h6 := r64_of h6
  exact ⟨by intro x hx; simp at hx; rcases hx with rfl | rfl | rfl <;> assumption, by intro x hx; simp at hx; rcases hx with rfl | rfl | rfl <;> assumption⟩
structure NumsB (b : Bt) : Prop where
  s : R64 b.2.1
  e : ∀ e ∈ b.2.2.1, NumsE e
theorem NumsB.of {b : Bt} (h : Wf BtT b) : NumsB b := ⟨r64_of h.2.1, fun e he => NumsE.of (h.2.2.1.2 e he)⟩
theorem FitB.of {b : Bt} (hn : NumsB b) (hc : chkB b = 0) : FitB b := by
  obtain ⟨h1, h2, h3⟩ := chk_zero hc
  refine ⟨keyB_size h1, hn.s, h2, fun e he => ?_⟩
  obtain ⟨i, hi, rfl⟩ := List.getElem_of_mem he
  have := check_sizes (step_zero (h3 i hi)).1
  rw [getD_at hi dE] at this
  refine ⟨(hn.e _ he).n, ?_, (hn.e _ he).m⟩
  intro s hs
  simp at hs
  rcases hs with rfl | rfl | rfl
  · exact this.1
  · exact this.2.1
  · exact this.2.2
theorem event_Pack_eq (k : Int) (b : Bt) (hs : SizesB b) (hn : NumsB b) : event_Pack_C (k, b, ()) = some (pack k b, ()) := by
  unfold pack
  by_cases hc : chkB b = 0
  · rw [event_Pack_fit k b hs (FitB.of hn hc) hc, hc]; rfl
  · unfold event_Pack_C event_Pack_F
    simp only
    rw [event_CheckBatch_eq b hs, Option.bind_some]
    simp only
    rw [show (chkB b != 0) = true by simpa using hc]
    rfl
theorem ref28_Pack_eq (k : Int) (b : Bt) (hs : SizesB b) (hn : NumsB b) : ref28_Pack_C (k, b, ()) = some (pack k b, ()) := by
  unfold pack
  by_cases hc : chkB b = 0
  · rw [ref28_Pack_fit k b hs (FitB.of hn hc) hc, hc]; rfl
  · unfold ref28_Pack_C ref28_Pack_F
    simp only
    rw [ref28_CheckBatch_eq b hs, Option.bind_some]
    simp only
    rw [show (chkB b != 0) = true by simpa using hc]
    rfl
end Go.Proofs.YtabkfgkpofjeoaaDoor.Pack0
