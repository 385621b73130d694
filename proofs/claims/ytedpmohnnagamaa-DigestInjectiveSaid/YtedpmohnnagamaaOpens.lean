/- What an argument that the row reads comes to in the words' kinds: for numbers, bools, strings, structs and slices of these, of every length. -/
import Derived.Test.YtedpmohnnagamaaWWords
import Derived.Test.YtedpmohnnagamaaWLast
import Derived.Test.YtedpmohnnagamaaWTab
import Derived.Test.YtedpmohnnagamaaWFour
import Derived.Test.YtedpmohnnagamaaWQPut
import Derived.Test.YtedpmohnnagamaaWApart
import Derived.Test.YtedpmohnnagamaaWArr
import Derived.Test.YtedpmohnnagamaaWZeros
import Derived.Test.YtedpmohnnagamaaWFoot
import Derived.Test.YtedpmohnnagamaaWKept
import Derived.Test.YtedpmohnnagamaaWShare
import Derived.Test.YtedpmohnnagamaaWN
import Derived.Test.YtedpmohnnagamaaWFootNe
import Derived.Test.YtedpmohnnagamaaWAt
import Derived.Test.YtedpmohnnagamaaWEqStruct
import Derived.Test.YtedpmohnnagamaaWRepsOne
import Derived.Test.YtedpmohnnagamaaWInv
import Derived.Test.YtedpmohnnagamaaWInvWords
import Derived.Test.YtedpmohnnagamaaWGuard
import Derived.Test.YtedpmohnnagamaaWNEv
import Derived.Test.YtedpmohnnagamaaWMore
import Derived.ChangeSlices
import Derived.ChangeArms
import Derived.Deep.Slices
import Derived.WalkKit
import Derived.ProofKit
namespace Go.Proofs.Ytedpmohnnagamaa.Opens
open Go.RowKit Go.ChangeShapes Go.WideShapes Go.Deep Go.Proofs.YtedpmohnnagamaaW.PrintWords Go.Proofs.YtedpmohnnagamaaW.PrintLast Go.Proofs.YtedpmohnnagamaaW.PrintMore
set_option linter.unusedVariables false
set_option linter.unusedSimpArgs false

/-- Whatever reads at type t is of kind d, and well formed. -/
def Opens {α : Type} (P : Program) (t : TypeId) (d : Kd α) (Wf : α → Prop) : Prop :=
  ∀ {H : Type} (enc : TypeId × Value → H) (w : World) (held : Bool) (fuel : Nat) (cs : List Value) (x : DataW H × List MemPlace), DataW.trod enc P w 0 (fun _ => true) held fuel t cs = some x → ∃ a : α, d.K w a cs ∧ Wf a

theorem opens_int {P : Program} {t : TypeId} {k : IntKind} (ht : P.underlying t = some (.int k)) : Opens P t (Kd.int k) (fun n => (Lit.int k n).wf = true) := by
  intro H enc w held fuel cs x h
  obtain ⟨n, rfl, _, hw⟩ := DataW.trod_int ht h
  exact ⟨n, rfl, hw⟩
theorem opens_bool {P : Program} {t : TypeId} (ht : P.underlying t = some .bool) : Opens P t Kd.bool (fun _ => True) := by
  intro H enc w held fuel cs x h
  obtain ⟨b, rfl, _⟩ := DataW.trod_bool ht h
  exact ⟨b, rfl, trivial⟩
theorem opens_string {P : Program} {t : TypeId} (ht : P.underlying t = some .string) : Opens P t Kd.string (fun s => s.size ≤ maxLen) := by
  intro H enc w held fuel cs x h
  obtain ⟨s, rfl, _, hs⟩ := DataW.trod_string ht h
  exact ⟨s, rfl, hs⟩
theorem opens_slice {α : Type} {P : Program} {t e : TypeId} {d : Kd α} {Wf : α → Prop} (z : α) (ht : P.underlying t = some (.slice e)) (hc : P.cellsOf e = d.sz) (hd : Opens P e d Wf) :
    Opens P t (Kd.slice e d) (fun l => l.length ≤ maxLen ∧ ∀ x ∈ l, Wf x) := by
  intro H enc w held fuel cs x h
  rcases open_slice ht h with ⟨rfl, _⟩ | ⟨a, len, cap, m, n, D, Pl, rfl, hb, hl, hm, hmm, _, hx⟩
  · exact ⟨[], ⟨none, 0, rfl, Nat.le_refl _, rfl, Nat.zero_le _, fun hp => absurd hp (by simp)⟩, Nat.zero_le _, fun x hx => by cases hx⟩
  · simp only [if_true] at hmm
    obtain rfl : cap = m := hmm.symm
    have each : ∀ i, i < len → ∃ y : α, (∃ cs', w.cells? 0 (a.add (i * P.cellsOf e)) (P.cellsOf e) = some cs' ∧ d.K w y cs') ∧ Wf y := fun i hi => by
      obtain ⟨cs', h1, h2⟩ := hx i (by omega)
      obtain ⟨y, hy, hw⟩ := hd enc w held n cs' _ h2
      exact ⟨y, ⟨cs', h1, hy⟩, hw⟩
    haveI : Inhabited α := ⟨z⟩
    obtain ⟨f, hf⟩ := choose_lt (n := len) (p := fun i y => (∃ cs', w.cells? 0 (a.add (i * P.cellsOf e)) (P.cellsOf e) = some cs' ∧ d.K w y cs') ∧ Wf y) each
    have hlen : ((List.range len).map f).length = len := by simp
    refine ⟨(List.range len).map f, ⟨some a, cap, by rw [hlen], by rw [hlen]; exact hl, rfl, by rw [hlen]; simp only [maxLen] at hm; omega, fun _ => ⟨a, rfl, fun j p hj => ?_⟩⟩, by rw [hlen]; exact Nat.le_trans hl hm, fun x hx => ?_⟩
    · have hjl : j < len := by
        have := (List.getElem?_eq_some_iff.1 hj).1
        rwa [hlen] at this
      have hp : f j = p := by simpa [hjl] using hj
      subst hp
      obtain ⟨⟨cs', h1, hk⟩, _⟩ := hf j hjl
      obtain ⟨_, hcl, hcell⟩ := World.cells?_some h1
      refine ⟨cs', by rw [hcl, hc], hk, fun i u hu => ?_⟩
      have hi : i < P.cellsOf e := by
        have := (List.getElem?_eq_some_iff.1 hu).1
        omega
      have := hcell i hi
      rw [Go.Deep.add_add, hc] at this
      rw [this, hu]
    · obtain ⟨i, hi, rfl⟩ := List.mem_map.1 hx
      exact (hf i (by simpa using hi)).2
/-- A whole argument, by its value. -/
theorem Opens.arg {α : Type} {P : Program} {t : TypeId} {d : Kd α} {Wf : α → Prop} (hd : Opens P t d Wf) {H : Type} {enc : TypeId × Value → H} {w : World} {held : Bool} {v : Value} {x : DataW H} {ps : List MemPlace} (h : DataW.Trod enc P w 0 (fun _ => true) held t v x ps) : ∃ a : α, d.K w a v.cells.toList ∧ Wf a := by
  obtain ⟨fuel, hf⟩ := h
  exact hd enc w held fuel _ _ hf
/-- A slice argument. -/
theorem Opens.slice {α : Type} {P : Program} {t e : TypeId} {d : Kd α} {Wf : List α → Prop} (hd : Opens P t (Kd.slice e d) Wf) {H : Type} {enc : TypeId × Value → H} {w : World} {held : Bool} {A : Option Addr} {n c : Nat} {x : DataW H} {ps : List MemPlace} (h : DataW.Trod enc P w 0 (fun _ => true) held t (.slice A n c) x ps) :
    ∃ l : List α, n = l.length ∧ d.C w A l.length l ∧ l.length ≤ c ∧ Wf l := by
  obtain ⟨l, ⟨A', c', he, hl, hc⟩, hw⟩ := hd.arg h
  simp [Value.cells] at he
  obtain ⟨rfl, rfl, rfl⟩ := he
  exact ⟨l, rfl, hc, hl, hw⟩
/-- The cells of a struct, field by field. -/
theorem struct_cells {P : Program} {t : TypeId} {fs : Array Field} (ht : P.underlying t = some (.struct fs)) {H : Type} {enc : TypeId × Value → H} {w : World} {held : Bool} {fuel : Nat} {cs : List Value} {x : DataW H × List MemPlace} (h : DataW.trod enc P w 0 (fun _ => true) held fuel t cs = some x) :
    cs.length = P.cellsOf t ∧ ∃ n, ∀ (i : Nat) (f : Field), fs[i]? = some f → ∃ y, DataW.trod enc P w 0 (fun _ => true) held n f.type ((cs.drop f.offset).take (P.cellsOf f.type)) = some y := by
  obtain ⟨xs, n, _, _, hl, hxl, hf⟩ := DataW.trod_struct ht h
  refine ⟨hl, n, fun i f hi => ?_⟩
  have hlt : i < xs.length := by rw [hxl]; exact (Array.getElem?_eq_some_iff.1 hi).1
  exact ⟨xs[i], by rw [hf i f hi]; exact List.getElem?_eq_getElem hlt⟩
end Go.Proofs.Ytedpmohnnagamaa.Opens
