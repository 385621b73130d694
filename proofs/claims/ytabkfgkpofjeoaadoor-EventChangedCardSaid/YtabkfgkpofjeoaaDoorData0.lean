/- data.Events: the events it makes are good ones. -/
import Derived.Test.YtabkfgkpofjeoaaDoorPack0
import Derived.KernelRfl
set_option linter.unusedVariables false
set_option linter.unusedSimpArgs false
set_option maxRecDepth 100000
namespace Go.Proofs.YtabkfgkpofjeoaaDoor.Data0
open Go Go.Sy Go.Proofs.YtabkfgkpofjeoaaDoor.F Go.Proofs.YtabkfgkpofjeoaaDoor.Base Go.Proofs.YtabkfgkpofjeoaaDoor.Key0 Go.Proofs.YtabkfgkpofjeoaaDoor.Check0 Go.Proofs.YtabkfgkpofjeoaaDoor.Batch0 Go.Proofs.YtabkfgkpofjeoaaDoor.Pack0
def Ret {α : Type} (P : α → Prop) (o : Option α) : Prop := ∃ a, o = some a ∧ P a
theorem Ret.bind {α β : Type} {P : β → Prop} {Q : α → Prop} {o : Option α} {f : α → Option β} (h : Ret Q o) (k : ∀ a, Q a → Ret P (f a)) : Ret P (o.bind f) := by
  obtain ⟨a, rfl, ha⟩ := h
  exact k a ha
theorem Ret.some {α : Type} {P : α → Prop} {a : α} (h : P a) : Ret P (some a) := ⟨a, rfl, h⟩
theorem Ret.imp {α : Type} {P Q : α → Prop} {o : Option α} (h : Ret Q o) (k : ∀ a, Q a → P a) : Ret P o := by
  obtain ⟨a, e, ha⟩ := h
  exact ⟨a, e, k a ha⟩
theorem Ret.cond {α : Type} {P : α → Prop} {c : Bool} {a b : Option α} (h1 : c = true → Ret P a) (h2 : c = false → Ret P b) : Ret P (bif c then a else b) := by
  cases c
  · exact h2 rfl
  · exact h1 rfl
theorem Ret.guard {α : Type} {P : α → Prop} {c : Bool} {a b : Option α} (hc : c = true) (h1 : Ret P a) : Ret P (bif c then a else b) := by
  rw [hc]; exact h1
/-- Loops that end. -/
theorem Ret.iter {α R : Type} {f : (α → Option R) → α → Option R} {P : R → Prop} (Inv : α → Prop) (ms : α → Nat)
    (h : ∀ x self, Inv x → (∀ y, Inv y → ms y < ms x → Ret P (self y)) → Ret P (f self x)) : ∀ k x fuel, Inv x → ms x ≤ k → k < fuel → Ret P (iter fuel f x)
  | _, _, 0, _, _, hf => absurd hf (Nat.not_lt_zero _)
  | 0, x, fuel + 1, hi, hm, _ => h x _ hi (fun y _ hy => by omega)
  | k + 1, x, fuel + 1, hi, hm, hf => h x _ hi (fun y hy hl => Ret.iter Inv ms h k y fuel hy (by omega) (by omega))
abbrev Src : Type := List Int × Int × Unit
structure OkS (s : Src) : Prop where
  l : s.1.length ≤ maxLen
  b : ∀ x ∈ s.1, 0 ≤ x ∧ x < 256
  p0 : 0 ≤ s.2.1
  p1 : s.2.1 ≤ (s.1.length : Int)
theorem more_eq (s : Src) : data_Source_More_C (s, ()) = some (decide (s.2.1 < (s.1.length : Int)), s, ()) := rfl
theorem next_ok {s : Src} (h : OkS s) {m : Int} (hm : 0 < m) : Ret (fun r => 0 ≤ r.1 ∧ r.1 < m ∧ OkS r.2.1) (data_Source_Next_C (s, m, ())) := by
  unfold data_Source_Next_C data_Source_Next_F
  simp only
  have hl := h.l
  rw [maxLen_eq] at hl
  have h0 := h.p0
  have h1 := h.p1
  apply Ret.cond
  · intro _
    exact Ret.some ⟨by omega, hm, h⟩
  · intro hc
    have hlt : s.2.1 < (s.1.length : Int) := by simpa using hc
    rw [wrap_id (n := s.2.1 + 1) (by omega) (by omega), wrap_id (n := s.2.1 + 1 - 1) (by omega) (by omega)]
    rw [show s.2.1 + 1 - 1 = ((s.2.1.toNat : Nat) : Int) by omega]
    have hn : s.2.1.toNat < s.1.length := by omega
    refine Ret.guard (inb_true hn) (Ret.guard (by simp; omega) (Ret.some ?_))
    rw [Int.toNat_natCast, getD_at hn]
    have hb := h.b _ (List.getElem_mem hn)
    generalize s.1[s.2.1.toNat] = v at hb
    rw [wrap_id (by omega) (by omega)]
    have e : Int.tmod v m = v % m := by rw [Int.tmod_eq_emod_of_nonneg hb.1]
    refine ⟨?_, ?_, ⟨h.l, h.b, ?_, ?_⟩⟩
    · show 0 ≤ Int.tmod v m
      rw [e]; exact Int.emod_nonneg _ (by omega)
    · show Int.tmod v m < m
      rw [e]; exact Int.emod_lt_of_pos _ hm
    · show 0 ≤ s.2.1 + 1
      omega
    · show s.2.1 + 1 ≤ (s.1.length : Int)
      omega
def ids : List ByteArray := [⟨#[97, 110, 110]⟩, ⟨#[98, 111, 98]⟩, ⟨#[99, 97, 116]⟩, ⟨#[100, 97, 110]⟩, ⟨#[101, 118, 101]⟩, ⟨#[102, 97, 121]⟩]
def exps : List ByteArray := [⟨#[98, 108, 117, 101]⟩, ⟨#[103, 114, 101, 101, 110]⟩, ⟨#[102, 97, 115, 116]⟩, ⟨#[115, 108, 111, 119]⟩]
def names : List ByteArray := [⟨#[98, 117, 121]⟩, ⟨#[118, 105, 115, 105, 116]⟩]
def apps : List ByteArray := [⟨#[97, 112, 112]⟩, ⟨#[116, 97, 98]⟩, ⟨#[119, 101, 98]⟩]
theorem ids_all : (ids.all fun s => keyB s && decide (s.size ≤ 32)) = true := by kernel_rfl
theorem exps_all : (exps.all fun s => keyB s && decide (s.size ≤ 32)) = true := by kernel_rfl
theorem names_all : (names.all fun s => keyB s && decide (s.size ≤ 32)) = true := by kernel_rfl
theorem apps_all : (apps.all fun s => keyB s && decide (s.size ≤ 32)) = true := by kernel_rfl
/-- A key. -/
structure KeyS (s : ByteArray) : Prop where
  k : keyB s = true
  n : s.size ≤ maxLen
theorem KeyS.of {l : List ByteArray} (h : (l.all fun s => keyB s && decide (s.size ≤ 32)) = true) {s : ByteArray} (hs : s ∈ l) : KeyS s := by
  have := List.all_eq_true.1 h s hs
  rw [Bool.and_eq_true, decide_eq_true_eq] at this
  exact ⟨this.1, by rw [maxLen_eq]; omega⟩
theorem getD_mem {X : Type} {l : List X} {i : Nat} (h : i < l.length) (d : X) : l.getD i d ∈ l := by
  rw [getD_at h]; exact List.getElem_mem h
def idAt (n : Nat) : ByteArray := ids.getD (n % 6) ⟨#[]⟩
theorem idAt_key (n : Nat) : KeyS (idAt n) := KeyS.of ids_all (getD_mem (by show n % 6 < 6; omega) _)
theorem id_eq (n : Nat) : data_Id_C ((n : Int), ()) = some (idAt n, ()) := by
  unfold data_Id_C data_Id_F
  rw [show data_Ids_C () = some (ids, ()) from rfl]
  simp only [Option.bind_some]
  rw [show ((ids.length : Int) != 0) = true from rfl, show Int.tmod ((n : Nat) : Int) (ids.length : Int) = ((n % 6 : Nat) : Int) from rfl, inb_true (by show n % 6 < 6; omega), Int.toNat_natCast]
  rfl
theorem ids_next : ((List.range 6).all fun i => !seq (ids.getD ((i + 1) % 6) ⟨#[]⟩) (ids.getD i ⟨#[]⟩)) = true := by kernel_rfl
theorem idAt_next (n : Nat) : seq (idAt (n + 1)) (idAt n) = false := by
  have h := List.all_eq_true.1 ids_next (n % 6) (List.mem_range.2 (by omega))
  have e : idAt (n + 1) = ids.getD ((n % 6 + 1) % 6) ⟨#[]⟩ := by unfold idAt; congr 1; omega
  rw [e]
  simpa [idAt] using h
structure Good (e : Ev) : Prop where
  c : check e = 0
  s : Sizes e
  n : NumsE e
  q : 1 ≤ e.2.1 ∧ e.2.1 ≤ 1000
theorem emp_size : (⟨#[]⟩ : ByteArray).size ≤ maxLen := by rw [maxLen_eq]; decide
theorem r64 {x : Int} (h1 : -1099511627776 ≤ x) (h2 : x ≤ 1099511627776) : R64 x := ⟨by omega, by omega⟩
theorem numsE {c i n o : ByteArray} {s k t v a m : Int} (h1 : R64 s) (h2 : R64 k) (h3 : R64 t) (h4 : R64 v) (h5 : R64 a) (h6 : R64 m) : NumsE (c, s, k, t, i, n, o, v, a, m, ()) :=
  ⟨by intro x hx; simp at hx; rcases hx with rfl | rfl | rfl <;> assumption, by intro x hx; simp at hx; rcases hx with rfl | rfl | rfl <;> assumption⟩
theorem good_exp {c id nm : ByteArray} {s t v a : Int} (hc : KeyS c) (hi : KeyS id) (hn : KeyS nm) (hs : 1 ≤ s ∧ s ≤ 1000) (ht : 0 ≤ t ∧ t ≤ 1000000) (hv : 0 ≤ v ∧ v ≤ 1000) (ha : 1 ≤ a ∧ a ≤ 8) : Good (c, s, 1, t, id, nm, ⟨#[]⟩, v, a, 0, ()) := by
  refine ⟨?_, ⟨hc.n, hi.n, hn.n, emp_size⟩, numsE (r64 (by omega) (by omega)) (r64 (by omega) (by omega)) (r64 (by omega) (by omega)) (r64 (by omega) (by omega)) (r64 (by omega) (by omega)) (r64 (by omega) (by omega)), hs⟩
  unfold check
  simp only
  rw [hc.k, hi.k, hn.k, decide_eq_false (by omega : ¬ s < 1), decide_eq_false (by omega : ¬ s > 1073741824), decide_eq_false (by omega : ¬ t < 0), decide_eq_false (by omega : ¬ t > 1099511627776), decide_eq_false (by omega : ¬ v < 0), decide_eq_false (by omega : ¬ v > 1099511627776), decide_eq_false (by omega : ¬ a < 1), decide_eq_false (by omega : ¬ a > 8), seq_refl]
  rfl
theorem good_mea {c id nm : ByteArray} {s t m : Int} (hc : KeyS c) (hi : KeyS id) (hn : KeyS nm) (hs : 1 ≤ s ∧ s ≤ 1000) (ht : 0 ≤ t ∧ t ≤ 1000000) (hm : -1000 ≤ m ∧ m ≤ 1000) : Good (c, s, 2, t, id, nm, ⟨#[]⟩, 0, 0, m, ()) := by
  refine ⟨?_, ⟨hc.n, hi.n, hn.n, emp_size⟩, numsE (r64 (by omega) (by omega)) (r64 (by omega) (by omega)) (r64 (by omega) (by omega)) (r64 (by omega) (by omega)) (r64 (by omega) (by omega)) (r64 (by omega) (by omega)), hs⟩
  unfold check
  simp only
  rw [hc.k, hi.k, hn.k, decide_eq_false (by omega : ¬ s < 1), decide_eq_false (by omega : ¬ s > 1073741824), decide_eq_false (by omega : ¬ t < 0), decide_eq_false (by omega : ¬ t > 1099511627776), decide_eq_false (by omega : ¬ m < (-1099511627776)), decide_eq_false (by omega : ¬ m > 1099511627776), seq_refl]
  rfl
theorem good_lnk {c id ot : ByteArray} {s t : Int} (hc : KeyS c) (hi : KeyS id) (ho : KeyS ot) (hd : seq ot id = false) (hs : 1 ≤ s ∧ s ≤ 1000) (ht : 0 ≤ t ∧ t ≤ 1000000) : Good (c, s, 3, t, id, ⟨#[]⟩, ot, 0, 0, 0, ()) := by
  refine ⟨?_, ⟨hc.n, hi.n, emp_size, ho.n⟩, numsE (r64 (by omega) (by omega)) (r64 (by omega) (by omega)) (r64 (by omega) (by omega)) (r64 (by omega) (by omega)) (r64 (by omega) (by omega)) (r64 (by omega) (by omega)), hs⟩
  unfold check
  simp only
  rw [hc.k, hi.k, ho.k, hd, decide_eq_false (by omega : ¬ s < 1), decide_eq_false (by omega : ¬ s > 1073741824), decide_eq_false (by omega : ¬ t < 0), decide_eq_false (by omega : ¬ t > 1099511627776), seq_refl]
  rfl
abbrev St1 : Type := (Unit × (Unit × (Int × (Unit × (Int × (Unit × Unit)))))) × ((Ev × ((List Int × (Int × Unit)) × Unit)) × (List Int × (List Ev × Unit)))
/-- What a block that makes an event comes to. -/
def Made (c : ByteArray) (s t k : Int) (sq : List Int) (evs : List Ev) (r : St1) : Prop :=
  ∃ e src, r = (((), (), t, (), k, (), ()), (e, src, ()), sq, evs, ()) ∧ OkS src ∧ Good e ∧ e.1 = c ∧ e.2.1 = s
theorem exp_ok {src : Src} (h : OkS src) {c id : ByteArray} {s t : Int} (k : Int) (sq : List Int) (evs : List Ev) (hc : KeyS c) (hi : KeyS id) (hs : 1 ≤ s ∧ s ≤ 1000) (ht : 0 ≤ t ∧ t ≤ 1000000) : Ret (Made c s t k sq evs) (
Option.bind (data_Experiments_C ()) fun r14 =>
Option.bind (data_Source_Next_C (src, 8, ())) fun r15 =>
bif inb (IntKind.wrap .i64 (Int.tdiv r15.1 7)) r14.1.length then
bif inb (IntKind.wrap .i64 (Int.tdiv r15.1 7)) r14.1.length then
let v16 : ByteArray := r14.1.getD (IntKind.wrap .i64 (Int.tdiv r15.1 7)).toNat (⟨#[]⟩ : ByteArray)
Option.bind (data_Source_Next_C (r15.2.1, 10, ())) fun r17 =>
Option.bind (data_Source_Next_C (r17.2.1, 12, ())) fun r18 =>
let v19 : Int := IntKind.wrap .i64 ((IntKind.wrap .i64 (1 + (Int.tmod (Int.tmod r17.1 9) 2))) + (IntKind.wrap .i64 (Int.tdiv r18.1 11)))
Option.bind (data_Source_Next_C (r18.2.1, 5, ())) fun r20 =>
some (((), (), t, (), k, (), ()), ((c, s, 1, t, id, v16, (⟨#[]⟩ : ByteArray), IntKind.wrap .i64 (1 + (IntKind.wrap .i64 (Int.tdiv r20.1 4))), v19, 0, ()), r20.2.1, ()), sq, evs, ())
else none
else none) := by
  rw [show data_Experiments_C () = some (exps, ()) from rfl, Option.bind_some]
  simp only
  refine Ret.bind (next_ok h (by omega)) ?_
  rintro ⟨n, s1, _⟩ ⟨h1, h2, h3⟩
  simp only at h1 h2 h3 ⊢
  obtain ⟨n, rfl⟩ := Int.eq_ofNat_of_zero_le h1
  rw [show Int.tdiv ((n : Nat) : Int) 7 = ((n / 7 : Nat) : Int) from rfl, wrap_id (by omega) (by omega)]
  have hn : n / 7 < exps.length := by show n / 7 < 4; omega
  refine Ret.guard (inb_true hn) (Ret.guard (inb_true hn) ?_)
  rw [Int.toNat_natCast]
  have hk := KeyS.of exps_all (getD_mem hn ⟨#[]⟩)
  generalize exps.getD (n / 7) ⟨#[]⟩ = nm at hk
  refine Ret.bind (next_ok h3 (by omega)) ?_
  rintro ⟨n2, s2, _⟩ ⟨g1, g2, g3⟩
  simp only at g1 g2 g3 ⊢
  obtain ⟨n2, rfl⟩ := Int.eq_ofNat_of_zero_le g1
  refine Ret.bind (next_ok g3 (by omega)) ?_
  rintro ⟨n3, s3, _⟩ ⟨f1, f2, f3⟩
  simp only at f1 f2 f3 ⊢
  obtain ⟨n3, rfl⟩ := Int.eq_ofNat_of_zero_le f1
  refine Ret.bind (next_ok f3 (by omega)) ?_
  rintro ⟨n4, s4, _⟩ ⟨d1, d2, d3⟩
  simp only at d1 d2 d3 ⊢
  obtain ⟨n4, rfl⟩ := Int.eq_ofNat_of_zero_le d1
  rw [show Int.tdiv ((n4 : Nat) : Int) 4 = ((n4 / 4 : Nat) : Int) from rfl, show Int.tdiv ((n3 : Nat) : Int) 11 = ((n3 / 11 : Nat) : Int) from rfl, show Int.tmod (Int.tmod ((n2 : Nat) : Int) 9) 2 = ((n2 % 9 % 2 : Nat) : Int) from rfl]
  rw [wrap_id (n := ((n4 / 4 : Nat) : Int)) (by omega) (by omega), wrap_id (n := ((n3 / 11 : Nat) : Int)) (by omega) (by omega), wrap_id (n := 1 + ((n2 % 9 % 2 : Nat) : Int)) (by omega) (by omega), wrap_id (n := 1 + ((n4 / 4 : Nat) : Int)) (by omega) (by omega), wrap_id (n := 1 + ((n2 % 9 % 2 : Nat) : Int) + ((n3 / 11 : Nat) : Int)) (by omega) (by omega)]
  exact Ret.some ⟨_, _, rfl, d3, good_exp hc hi hk hs ht (by omega) (by omega), rfl, rfl⟩
theorem lnk_ok {src : Src} (h : OkS src) {c : ByteArray} {id : ByteArray} {s t : Int} (k : Int) (sq : List Int) (evs : List Ev) (hc : KeyS c) (hi : KeyS id) (hs : 1 ≤ s ∧ s ≤ 1000) (ht : 0 ≤ t ∧ t ≤ 1000000) : Ret (Made c s t k sq evs) (
Option.bind (data_Source_Next_C (src, 6, ())) fun r21 =>
Option.bind (data_Id_C (r21.1, ())) fun r22 =>
bif seq r22.1 id then
(Option.bind (data_Id_C (IntKind.wrap .i64 (r21.1 + 1), ())) fun r23 =>
some (((), (), t, (), k, (), ()), ((c, s, 3, t, id, (⟨#[]⟩ : ByteArray), r23.1, 0, 0, 0, ()), r21.2.1, ()), sq, evs, ()))
else
Option.bind (data_Id_C (r21.1, ())) fun r24 =>
some (((), (), t, (), k, (), ()), ((c, s, 3, t, id, (⟨#[]⟩ : ByteArray), r24.1, 0, 0, 0, ()), r21.2.1, ()), sq, evs, ())) := by
  refine Ret.bind (next_ok h (by omega)) ?_
  rintro ⟨n, s1, _⟩ ⟨h1, h2, h3⟩
  simp only at h1 h2 h3 ⊢
  obtain ⟨n, rfl⟩ := Int.eq_ofNat_of_zero_le h1
  rw [id_eq, Option.bind_some]
  simp only
  apply Ret.cond
  · intro he
    rw [wrap_id (by omega) (by omega), show (n : Int) + 1 = ((n + 1 : Nat) : Int) from rfl, id_eq, Option.bind_some]
    exact Ret.some ⟨_, _, rfl, h3, good_lnk hc hi (idAt_key _) (by rw [← seq_iff.1 he]; exact idAt_next n) hs ht, rfl, rfl⟩
  · intro he
    rw [Option.bind_some]
    exact Ret.some ⟨_, _, rfl, h3, good_lnk hc hi (idAt_key _) he hs ht, rfl, rfl⟩
theorem mea_ok {src : Src} (h : OkS src) {c : ByteArray} {id : ByteArray} {s t : Int} (k : Int) (sq : List Int) (evs : List Ev) (hc : KeyS c) (hi : KeyS id) (hs : 1 ≤ s ∧ s ≤ 1000) (ht : 0 ≤ t ∧ t ≤ 1000000) : Ret (Made c s t k sq evs) (
Option.bind (data_Names_C ()) fun r25 =>
Option.bind (data_Source_Next_C (src, 3, ())) fun r26 =>
bif inb (IntKind.wrap .i64 (Int.tdiv r26.1 2)) r25.1.length then
bif inb (IntKind.wrap .i64 (Int.tdiv r26.1 2)) r25.1.length then
let v27 : ByteArray := r25.1.getD (IntKind.wrap .i64 (Int.tdiv r26.1 2)).toNat (⟨#[]⟩ : ByteArray)
Option.bind (data_Source_Next_C (r26.2.1, 40, ())) fun r28 =>
some (((), (), t, (), k, (), ()), ((c, s, 2, t, id, v27, (⟨#[]⟩ : ByteArray), 0, 0, IntKind.wrap .i64 (r28.1 - 4), ()), r28.2.1, ()), sq, evs, ())
else none
else none) := by
  rw [show data_Names_C () = some (names, ()) from rfl, Option.bind_some]
  simp only
  refine Ret.bind (next_ok h (by omega)) ?_
  rintro ⟨n, s1, _⟩ ⟨h1, h2, h3⟩
  simp only at h1 h2 h3 ⊢
  obtain ⟨n, rfl⟩ := Int.eq_ofNat_of_zero_le h1
  rw [show Int.tdiv ((n : Nat) : Int) 2 = ((n / 2 : Nat) : Int) from rfl, wrap_id (by omega) (by omega)]
  have hn : n / 2 < names.length := by show n / 2 < 2; omega
  refine Ret.guard (inb_true hn) (Ret.guard (inb_true hn) ?_)
  rw [Int.toNat_natCast]
  have hk := KeyS.of names_all (getD_mem hn ⟨#[]⟩)
  generalize names.getD (n / 2) ⟨#[]⟩ = nm at hk
  refine Ret.bind (next_ok h3 (by omega)) ?_
  rintro ⟨n2, s2, _⟩ ⟨g1, g2, g3⟩
  simp only at g1 g2 g3 ⊢
  rw [wrap_id (by omega) (by omega)]
  exact Ret.some ⟨_, _, rfl, g3, good_mea hc hi hk hs ht (by omega), rfl, rfl⟩
/-- Events of an app: their numbers go up and stay below the app's count. -/
def Below (sq : List Int) (e : Ev) : Prop := ∃ k, k < 3 ∧ e.1 = apps.getD k ⟨#[]⟩ ∧ 1 ≤ e.2.1 ∧ e.2.1 ≤ sq.getD k 0
structure Run (t : Int) (src : Src) (sq : List Int) (evs : List Ev) : Prop where
  s : OkS src
  l : sq.length = 3
  q : ∀ k, k < 3 → 0 ≤ sq.getD k 0 ∧ sq.getD k 0 ≤ (evs.length : Int)
  t0 : 0 ≤ t
  t1 : t ≤ 10 * (evs.length : Int)
  n : evs.length ≤ 60
  g : ∀ e ∈ evs, Good e
  b : ∀ e ∈ evs, Below sq e
  p : evs.Pairwise (fun a b => a.1 = b.1 → a.2.1 < b.2.1)
theorem apps_inj : ((List.range 3).all fun i => (List.range 3).all fun j => decide (i = j) || !seq (apps.getD i ⟨#[]⟩) (apps.getD j ⟨#[]⟩)) = true := by kernel_rfl
theorem app_inj {i j : Nat} (hi : i < 3) (hj : j < 3) (h : apps.getD i ⟨#[]⟩ = apps.getD j ⟨#[]⟩) : i = j := by
  have h1 := List.all_eq_true.1 (List.all_eq_true.1 apps_inj i (List.mem_range.2 hi)) j (List.mem_range.2 hj)
  rw [h, seq_refl] at h1
  simpa using h1
theorem set_getD (sq : List Int) (k j : Nat) (v : Int) (hk : k < sq.length) : (sq.set k v).getD j 0 = if j = k then v else sq.getD j 0 := by
  rw [List.getD_eq_getElem?_getD, List.getElem?_set]
  split
  · rename_i h; subst h; simp [hk]
  · rename_i h; rw [if_neg (fun e => h e.symm), List.getD_eq_getElem?_getD]
theorem Run.push {t : Int} {src : Src} {sq : List Int} {evs : List Ev} (h : Run t src sq evs) {k : Nat} (hk : k < 3) {e : Ev} {t' : Int} {src' : Src} (hs : OkS src') (hg : Good e) (hc : e.1 = apps.getD k ⟨#[]⟩) (hn : e.2.1 = sq.getD k 0 + 1) (ht0 : 0 ≤ t') (ht : t' ≤ t + 10) (hl : evs.length < 60) : Run t' src' (sq.set k (sq.getD k 0 + 1)) (evs ++ [e]) := by
  have hkl : k < sq.length := by rw [h.l]; exact hk
  have hq := h.q k hk
  refine ⟨hs, by rw [List.length_set, h.l], ?_, ht0, ?_, by simp; omega, ?_, ?_, ?_⟩
  · intro j hj
    have hq' := h.q j hj
    rw [set_getD _ _ _ _ hkl]
    rw [List.length_append, List.length_singleton]
    split <;> omega
  · have := h.t1; rw [List.length_append, List.length_singleton]; omega
  · intro x hx
    rcases List.mem_append.1 hx with hx | hx
    · exact h.g x hx
    · rw [List.mem_singleton.1 hx]; exact hg
  · intro x hx
    rcases List.mem_append.1 hx with hx | hx
    · obtain ⟨j, h1, h2, h3, h4⟩ := h.b x hx
      refine ⟨j, h1, h2, h3, ?_⟩
      rw [set_getD _ _ _ _ hkl]
      split
      · rename_i e; subst e; omega
      · exact h4
    · rw [List.mem_singleton.1 hx]
      refine ⟨k, hk, hc, by omega, ?_⟩
      rw [set_getD _ _ _ _ hkl, if_pos rfl]
      omega
  · rw [List.pairwise_append]
    refine ⟨h.p, List.pairwise_singleton _ _, ?_⟩
    intro a ha b hb
    rw [List.mem_singleton.1 hb]
    intro hab
    obtain ⟨j, h1, h2, h3, h4⟩ := h.b a ha
    have : j = k := app_inj h1 hk (by rw [← h2, hab, hc])
    subst this
    omega
/-- What the events made are. -/
structure Evs (evs : List Ev) : Prop where
  n : evs.length ≤ 60
  g : ∀ e ∈ evs, Good e
  p : evs.Pairwise (fun a b => a.1 = b.1 → a.2.1 < b.2.1)
abbrev StE : Type := (Unit × (Unit × (Int × (Unit × (Int × Unit))))) × ((Src × Unit) × (List Int × (List Ev × Unit)))
def InvE (x : StE) : Prop := ∃ t k src sq evs, x = (((), (), t, (), k, ()), (src, ()), sq, evs, ()) ∧ Run t src sq evs
theorem events_ok {l : List Int} (h : OkS (l, 0, ())) : Ret (fun r => Evs r.1) (data_Events_C (l, ())) := by
  unfold data_Events_C data_Events_F
  refine Ret.bind (Q := fun r => Evs r.2.2.1) (Ret.iter InvE (fun x => 60 - x.2.2.2.1.length) ?_ 60 _ 100 ?_ (by simp) (by omega)) (fun a ha => Ret.some ha)
  · rintro _ self ⟨t, k0, src, sq, evs, rfl, hr⟩ hself
    simp only
    rw [more_eq, Option.bind_some]
    simp only
    apply Ret.cond
    · intro hc
      have hl : evs.length < 60 := by
        cases h1 : decide (src.2.1 < (src.1.length : Int))
        · rw [h1] at hc; cases hc
        · rw [h1, cond_true, decide_eq_true_eq] at hc; omega
      refine Ret.bind (Q := fun r : StE => InvE r ∧ r.2.2.2.1.length = evs.length + 1) ?_ ?_
      · refine Ret.bind (next_ok hr.s (by omega)) ?_
        rintro ⟨n1, s1, _⟩ ⟨m1, m2, m3⟩
        simp only at m1 m2 m3 ⊢
        refine Ret.bind (next_ok m3 (by omega)) ?_
        rintro ⟨n2, s2, _⟩ ⟨p1, p2, p3⟩
        simp only at p1 p2 p3 ⊢
        obtain ⟨k, rfl⟩ := Int.eq_ofNat_of_zero_le p1
        have hk : k < 3 := by omega
        have hkl : k < sq.length := by rw [hr.l]; exact hk
        have hq := hr.q k hk
        have ht0 := hr.t0
        have ht1 := hr.t1
        have hkc : KeyS (apps.getD k ⟨#[]⟩) := KeyS.of apps_all (getD_mem hk _)
        apply Ret.cond <;> intro _
        · rw [show [(⟨#[97, 112, 112]⟩ : ByteArray), (⟨#[116, 97, 98]⟩ : ByteArray), (⟨#[119, 101, 98]⟩ : ByteArray)] = apps from rfl]
          refine Ret.guard (inb_true hkl) (Ret.guard (inb_true hkl) (Ret.guard (inb_true hkl) (Ret.guard (inb_true hkl) (Ret.guard (inb_true hk) (Ret.guard (inb_true hk) ?_)))))
          rw [Int.toNat_natCast, wrap_id (n := sq.getD k 0 + 1) (by omega) (by omega)]
          refine Ret.guard (inb_true (by rw [List.length_set]; exact hkl)) (Ret.guard (inb_true (by rw [List.length_set]; exact hkl)) ?_)
          rw [set_getD _ _ _ _ hkl, if_pos rfl]
          rw [wrap_id (n := t + 1) (by omega) (by omega)]
          refine Ret.bind (next_ok p3 (by omega)) ?_
          rintro ⟨n3, s3, _⟩ ⟨a1, a2, a3⟩
          simp only at a1 a2 a3 ⊢
          obtain ⟨n3, rfl⟩ := Int.eq_ofNat_of_zero_le a1
          rw [id_eq, Option.bind_some]
          simp only
          have hi := idAt_key n3
          generalize idAt n3 = id at hi
          refine Ret.bind (next_ok a3 (by omega)) ?_
          rintro ⟨n4, s4, _⟩ ⟨b1, b2, b3⟩
          simp only at b1 b2 b3 ⊢
          refine Ret.bind (Q := Made (apps.getD k ⟨#[]⟩) (sq.getD k 0 + 1) (t + 1) (k : Int) (sq.set k (sq.getD k 0 + 1)) evs) ?_ ?_
          · repeat' first
              | exact exp_ok b3 _ _ _ hkc hi ⟨by omega, by omega⟩ ⟨by omega, by omega⟩
              | exact lnk_ok b3 _ _ _ hkc hi ⟨by omega, by omega⟩ ⟨by omega, by omega⟩
              | exact mea_ok b3 _ _ _ hkc hi ⟨by omega, by omega⟩ ⟨by omega, by omega⟩
              | (apply Ret.cond <;> intro _)
          · rintro _ ⟨e, src', rfl, hs', hg, hc', hn'⟩
            simp only [List.length_singleton]
            refine Ret.guard (Num0.roomy_of (by omega)) (Ret.some ⟨⟨_, _, _, _, _, rfl, hr.push hk hs' hg hc' hn' (by omega) (by omega) hl⟩, by simp⟩)
        · rw [show [(⟨#[97, 112, 112]⟩ : ByteArray), (⟨#[116, 97, 98]⟩ : ByteArray), (⟨#[119, 101, 98]⟩ : ByteArray)] = apps from rfl]
          refine Ret.guard (inb_true hkl) (Ret.guard (inb_true hkl) (Ret.guard (inb_true hkl) (Ret.guard (inb_true hkl) (Ret.guard (inb_true hk) (Ret.guard (inb_true hk) ?_)))))
          rw [Int.toNat_natCast, wrap_id (n := sq.getD k 0 + 1) (by omega) (by omega)]
          refine Ret.guard (inb_true (by rw [List.length_set]; exact hkl)) (Ret.guard (inb_true (by rw [List.length_set]; exact hkl)) ?_)
          rw [set_getD _ _ _ _ hkl, if_pos rfl]
          rw [wrap_id (n := t + n1) (by omega) (by omega)]
          refine Ret.bind (next_ok p3 (by omega)) ?_
          rintro ⟨n3, s3, _⟩ ⟨a1, a2, a3⟩
          simp only at a1 a2 a3 ⊢
          obtain ⟨n3, rfl⟩ := Int.eq_ofNat_of_zero_le a1
          rw [id_eq, Option.bind_some]
          simp only
          have hi := idAt_key n3
          generalize idAt n3 = id at hi
          refine Ret.bind (next_ok a3 (by omega)) ?_
          rintro ⟨n4, s4, _⟩ ⟨b1, b2, b3⟩
          simp only at b1 b2 b3 ⊢
          refine Ret.bind (Q := Made (apps.getD k ⟨#[]⟩) (sq.getD k 0 + 1) (t + n1) (k : Int) (sq.set k (sq.getD k 0 + 1)) evs) ?_ ?_
          · repeat' first
              | exact exp_ok b3 _ _ _ hkc hi ⟨by omega, by omega⟩ ⟨by omega, by omega⟩
              | exact lnk_ok b3 _ _ _ hkc hi ⟨by omega, by omega⟩ ⟨by omega, by omega⟩
              | exact mea_ok b3 _ _ _ hkc hi ⟨by omega, by omega⟩ ⟨by omega, by omega⟩
              | (apply Ret.cond <;> intro _)
          · rintro _ ⟨e, src', rfl, hs', hg, hc', hn'⟩
            simp only [List.length_singleton]
            refine Ret.guard (Num0.roomy_of (by omega)) (Ret.some ⟨⟨_, _, _, _, _, rfl, hr.push hk hs' hg hc' hn' (by omega) (by omega) hl⟩, by simp⟩)
      · rintro _ ⟨⟨t', k', src', sq', evs', rfl, hr'⟩, hlen⟩
        simp only at hlen ⊢
        exact hself _ ⟨t', k', src', sq', evs', rfl, hr'⟩ (by simp only; omega)
    · intro _
      exact Ret.some ⟨hr.n, hr.g, hr.p⟩
  · exact ⟨0, -1, (l, 0, ()), [0, 0, 0], [], rfl, h, rfl, by intro k hk; rcases (by omega : k = 0 ∨ k = 1 ∨ k = 2) with rfl | rfl | rfl <;> decide, by omega, by simp, by simp, by simp, by simp, List.Pairwise.nil⟩
end Go.Proofs.YtabkfgkpofjeoaaDoor.Data0
