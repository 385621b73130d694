/- A region of open order, each of whose operations tells a fact of its value that whatever makes memory keeps: whatever order comes up, all facts hold behind it. -/
import Derived.Test.YtedpmohnnagamaaWWords
import Derived.Test.YtedpmohnnagamaaWLast
import Derived.Test.YtedpmohnnagamaaWTab
import Derived.Test.YtedpmohnnagamaaWFour
import Derived.Test.YtedpmohnnagamaaWQPut
import Derived.Test.YtedpmohnnagamaaWApart
import Derived.Test.YtedpmohnnagamaaWArr
import Derived.Test.YtedpmohnnagamaaWZeros
import Derived.Test.YtedpmohnnagamaaWFoot
import Derived.Test.YtedpmohnnagamaaWKept
import Derived.Test.YtedpmohnnagamaaWShare
import Derived.Test.YtedpmohnnagamaaWN
import Derived.Test.YtedpmohnnagamaaWFootNe
import Derived.Test.YtedpmohnnagamaaWAt
import Derived.Test.YtedpmohnnagamaaWEqStruct
import Derived.Test.YtedpmohnnagamaaWRepsOne
import Derived.Test.YtedpmohnnagamaaWInv
import Derived.Test.YtedpmohnnagamaaWInvWords
import Derived.Test.YtedpmohnnagamaaWGuard
import Derived.Test.YtedpmohnnagamaaWNEv
import Derived.Test.YtedpmohnnagamaaWMore
namespace Go.Proofs.Ytedpmohnnagamaa.Free
open Go.RowKit Go.Proofs.YtedpmohnnagamaaW.PrintWords Go.Proofs.YtedpmohnnagamaaW.PrintLast Go.Proofs.YtedpmohnnagamaaW.PrintMore
set_option linter.unusedVariables false
set_option linter.unusedSimpArgs false
/-- The list of what is filled: operation, slot, value. -/
def Lof (ent : List (Nat × Tmp)) (V : Nat → Value) : List (Nat × Tmp × Value) := ent.map fun e => (e.1, e.2, V e.1)
theorem sel_size (b : Nat → Bool) (V : Nat → Value) (ent : List (Nat × Tmp)) (a : Act) : (putSel a b (Lof ent V)).tmps.size = a.tmps.size := (putSel_size b (Lof ent V) a).1
theorem sel_off {b : Nat → Bool} {V : Nat → Value} {s : Tmp} : ∀ {ent : List (Nat × Tmp)} {a : Act}, (∀ e ∈ ent, e.2 ≠ s) → (putSel a b (Lof ent V)).tmps[s]? = a.tmps[s]?
  | [], _, _ => rfl
  | e :: r, a, h => by
    show (putSel (if b e.1 = true then a.put (some e.2) (V e.1) else a) b (Lof r V)).tmps[s]? = _
    rw [sel_off (fun x hx => h x (by simp [hx]))]
    split
    · simp [Act.put, Array.getElem?_setIfInBounds_ne (h e (by simp))]
    · rfl
theorem sel_on {b : Nat → Bool} {V : Nat → Value} {j : Nat} {t : Tmp} : ∀ {ent : List (Nat × Tmp)} {a : Act}, (j, t) ∈ ent → (ent.map (·.2)).Nodup → b j = true → t < a.tmps.size → (putSel a b (Lof ent V)).tmps[t]? = some (V j)
  | [], _, h, _, _, _ => by cases h
  | e :: r, a, h, hn, hb, ht => by
    show (putSel (if b e.1 = true then a.put (some e.2) (V e.1) else a) b (Lof r V)).tmps[t]? = _
    rw [List.map_cons, List.nodup_cons] at hn
    rcases List.mem_cons.1 h with rfl | h
    · rw [sel_off (fun x hx he => hn.1 (List.mem_map.2 ⟨x, hx, he⟩)), if_pos hb]
      simp [Act.put, ht]
    · refine sel_on h hn.2 hb ?_
      split
      · simpa [Act.put] using ht
      · exact ht
theorem sel_congr {b : Nat → Bool} {V V' : Nat → Value} : ∀ {ent : List (Nat × Tmp)} {a : Act}, (∀ e ∈ ent, b e.1 = true → V e.1 = V' e.1) → putSel a b (Lof ent V) = putSel a b (Lof ent V')
  | [], _, _ => rfl
  | e :: r, a, h => by
    show putSel (if b e.1 = true then a.put (some e.2) (V e.1) else a) b (Lof r V) = putSel (if b e.1 = true then a.put (some e.2) (V' e.1) else a) b (Lof r V')
    rw [sel_congr (fun x hx => h x (by simp [hx]))]
    by_cases hb : b e.1 = true
    · rw [if_pos hb, if_pos hb, h e (by simp) hb]
    · rw [if_neg hb, if_neg hb]
theorem sel_all {b b' : Nat → Bool} {V : Nat → Value} : ∀ {ent : List (Nat × Tmp)} {a : Act}, (∀ e ∈ ent, b e.1 = b' e.1) → putSel a b (Lof ent V) = putSel a b' (Lof ent V)
  | [], _, _ => rfl
  | e :: r, a, h => by
    show putSel (if b e.1 = true then a.put (some e.2) (V e.1) else a) b (Lof r V) = putSel (if b' e.1 = true then a.put (some e.2) (V e.1) else a) b' (Lof r V)
    rw [h e (by simp)]
    exact sel_all (fun x hx => h x (by simp [hx]))
theorem sel_put {b : Nat → Bool} {V : Nat → Value} {t : Tmp} {v : Value} : ∀ {ent : List (Nat × Tmp)} {a : Act}, (∀ e ∈ ent, e.2 ≠ t) → (putSel a b (Lof ent V)).put (some t) v = putSel (a.put (some t) v) b (Lof ent V)
  | [], _, _ => rfl
  | e :: r, a, h => by
    show (putSel (if b e.1 = true then a.put (some e.2) (V e.1) else a) b (Lof r V)).put (some t) v = putSel (if b e.1 = true then (a.put (some t) v).put (some e.2) (V e.1) else a.put (some t) v) b (Lof r V)
    rw [sel_put (fun x hx => h x (by simp [hx]))]
    by_cases hb : b e.1 = true
    · rw [if_pos hb, if_pos hb, put_comm (h e (by simp))]
    · rw [if_neg hb, if_neg hb]
theorem sel_up {b : Nat → Bool} {V : Nat → Value} {i : Nat} {t : Tmp} {v : Value} (hb : b i = false) : ∀ {ent : List (Nat × Tmp)} {a : Act}, (i, t) ∈ ent → (ent.map (·.1)).Nodup → (ent.map (·.2)).Nodup →
    (putSel a b (Lof ent V)).put (some t) v = putSel a (up b i) (Lof ent (fun j => if j = i then v else V j))
  | [], _, h, _, _ => by cases h
  | e :: r, a, h, h1, h2 => by
    rw [List.map_cons, List.nodup_cons] at h1 h2
    show (putSel (if b e.1 = true then a.put (some e.2) (V e.1) else a) b (Lof r V)).put (some t) v = putSel (if up b i e.1 = true then a.put (some e.2) (if e.1 = i then v else V e.1) else a) (up b i) (Lof r (fun j => if j = i then v else V j))
    by_cases he : e.1 = i
    · have hit : (i, t) = e := by
        rcases List.mem_cons.1 h with h | h
        · exact h
        · exact absurd (List.mem_map.2 ⟨_, h, he.symm⟩) h1.1
      subst hit
      have hne : ∀ x ∈ r, x.1 ≠ i := fun x hx hx' => h1.1 (List.mem_map.2 ⟨x, hx, hx'⟩)
      rw [if_neg (by simp [hb]), if_pos (by simp [up]), if_pos rfl, sel_put (fun x hx he => h2.1 (List.mem_map.2 ⟨x, hx, he⟩)), sel_all (b' := up b i) (fun x hx => (up_ne (hne x hx)).symm)]
      exact sel_congr (fun x hx _ => (if_neg (hne x hx)).symm)
    · have hm : (i, t) ∈ r := by
        rcases List.mem_cons.1 h with h | h
        · exact absurd (congrArg (·.1) h).symm he
        · exact h
      rw [up_ne he, if_neg he]
      exact sel_up hb hm h1.2 h2.2
section
variable {P : Program} {Q : Exit → Act → World → Prop} {ops : Array Oper} {B : List Nat} {ent : List (Nat × Tmp)} {F : Nat → Value → World → Prop} {a0 : Act} {W0 : World}
/-- Operation i's step: all it waits for having told its fact, it tells its own. -/
def Stp (P : Program) (ops : Array Oper) (Q : Exit → Act → World → Prop) (B : List Nat) (ent : List (Nat × Tmp)) (F : Nat → Value → World → Prop) (a0 : Act) (W0 : World) (i : Nat) : Prop :=
  ∀ (V : Nat → Value) (a : Act) (W : World), Below W0.heap.size W0 W → (∀ j t, (j, t) ∈ ent → (B.getD i 0).testBit j = true → a.tmps[t]? = some (V j) ∧ F j (V j) W) → (∀ s, (∀ e ∈ ent, e.2 ≠ s) → a.tmps[s]? = a0.tmps[s]?) →
    ∃ oi t, ops[i]? = some oi ∧ (i, t) ∈ ent ∧ ∀ K : Act → World → Prop, (∀ v W', Below W.heap.size W W' → F i v W' → K (a.put (some t) v) W') → if Region.wanted oi (yielded ops a.tmps) = true then Oper.wp P oi a W K Q else K (a.put oi.dst undef) W
theorem stp_nil : ∀ i ∈ ([] : List Nat), Stp P ops Q B ent F a0 W0 i := fun _ h => by cases h
theorem stp_cons {i : Nat} {rs : List Nat} (h : Stp P ops Q B ent F a0 W0 i) (hs : ∀ j ∈ rs, Stp P ops Q B ent F a0 W0 j) : ∀ j ∈ i :: rs, Stp P ops Q B ent F a0 W0 j := fun j hj => by
  rcases List.mem_cons.1 hj with rfl | hj
  · exact h
  · exact hs j hj
theorem free_ {id n : Nat} {T : Bool × List (List Nat × List Nat)} (O : List Nat) (hm : P.follows .mixedOrders = true) (hn : ops.size = n) (hT : rtab .any ops = T) (hw : waitsOk T.2 B = true) (hk : baseOk T.2 O = true)
    (hl : (lof T.2.length O (fun _ => false) == (Array.replicate n false).toList && O.length == n) = true) (hsub : ∀ e ∈ ent, O.contains e.1 = true) (h1 : (ent.map (·.1)).Nodup) (h2 : (ent.map (·.2)).Nodup) (hsz : (ent.all fun e => Nat.blt e.2 a0.tmps.size) = true)
    (hF : ∀ i v w w', F i v w → Below w.heap.size w w' → F i v w') (h0 : Below W0.heap.size W0 W0.drew)
    (hs : ∀ i ∈ O, Stp P ops Q B ent F a0 W0 i)
    (hend : ∀ V W, Below W0.heap.size W0 W → (∀ e ∈ ent, F e.1 (V e.1) W) → Q .normal (putSel a0 (fun _ => true) (Lof ent V)) W) :
    (Code.region id ops true).wp P Q a0 W0 := by
  refine start_ (n := n) (S := fun _ => True) (ds := []) _ hm hn rfl trivial (fun _ => ?_)
  refine inv_ O (fun b a W => ∃ V : Nat → Value, a = putSel a0 b (Lof ent V) ∧ Below W0.heap.size W0 W ∧ ∀ e ∈ ent, b e.1 = true → F e.1 (V e.1) W) hT hw hk hl ?_ ?_ ?_
  · refine ⟨fun _ => undef, ?_, h0, fun _ _ h => by cases h⟩
    have : ∀ (ent : List (Nat × Tmp)) (a : Act), a = putSel a (fun _ => false) (Lof ent fun _ => undef) := by
      intro ent
      induction ent with
      | nil => intro a; rfl
      | cons e r ih => intro a; exact ih a
    exact this ent a0
  · intro i hi b a W ⟨V, ha, hB, hf⟩ hbi hon hoff
    subst ha
    obtain ⟨oi, t, ho, hmem, hstep⟩ := hs i hi V (putSel a0 b (Lof ent V)) W hB (fun j t hj hbit => ⟨sel_on hj h2 (hon j (by rw [hsub _ hj, hbit]; rfl)) (by have := List.all_eq_true.1 hsz _ hj; simpa [Nat.blt_eq] using this), hf _ hj (hon j (by rw [hsub _ hj, hbit]; rfl))⟩) (fun s hs => sel_off hs)
    refine ⟨oi, ho, fun K hK => hstep K (fun v W' hb hv => hK.out _ _ ⟨fun j => if j = i then v else V j, sel_up hbi hmem h1 h2, below_step hB hb, fun e he hbe => ?_⟩)⟩
    by_cases hei : e.1 = i
    · subst hei
      simpa using hv
    · rw [up_ne hei] at hbe
      simp only [if_neg hei]
      exact hF _ _ _ _ (hf e he hbe) hb
  · rintro b a W hall ⟨V, rfl, hB, hf⟩
    have hb : ∀ e ∈ ent, b e.1 = true := fun e he => hall _ (hsub e he)
    rw [sel_all (b' := fun _ => true) (fun e he => hb e he)]
    exact hend V W hB (fun e he => hf e he (hb e he))
end
/-- What is told of a value: it is this one; it is a slice that reads as these bytes; as these slices of bytes. -/
inductive Tells where
  | val (u : Value)
  | cs (l : List Int)
  | css (e : Nat) (l : List (List Int))
def Tells.holds : Tells → Value → World → Prop
  | .val u, v, _ => v = u
  | .cs l, v, w => ∃ A c, v = .slice A l.length c ∧ l.length ≤ c ∧ Kd.C (Kd.int .u8) w A l.length l
  | .css e l, v, w => ∃ A c, v = .slice A l.length c ∧ l.length ≤ c ∧ Kd.C (Kd.slice e (Kd.int .u8)) w A l.length l
theorem Tells.keep {s : Tells} {v : Value} {w w' : World} (h : s.holds v w) (hb : Below w.heap.size w w') : s.holds v w' := by
  cases s with
  | val u => exact h
  | cs l => obtain ⟨A, c, e, hc, hC⟩ := h; exact ⟨A, c, e, hc, Kd.C_below hC hb⟩
  | css e l => obtain ⟨A, c, e, hc, hC⟩ := h; exact ⟨A, c, e, hc, Kd.C_below hC hb⟩
theorem holds_R {e base : Nat} {ok : Nat → Prop} {v : Value} {w : World} {l : List Int} (h : Kd.R (Kd.int .u8) e w base ok v l) : (Tells.cs l).holds v w := by
  obtain ⟨A, c, rfl⟩ := Kd.R_slice h
  exact ⟨A, c, rfl, (Kd.R_reads' h).2.1, (Kd.R_reads' h).2.2⟩
theorem holds_N {e e2 base : Nat} {ok : Nat → Prop} {v : Value} {w : World} {l : List (List Int)} (h : Kd.N (Kd.slice e (Kd.int .u8)) e2 w base ok v l) : (Tells.css e l).holds v w := by
  obtain ⟨A, c, rfl⟩ := Kd.N_slice h
  exact ⟨A, c, rfl, (Kd.N_reads' h).2.1, (Kd.N_reads' h).2.2⟩
end Go.Proofs.Ytedpmohnnagamaa.Free
