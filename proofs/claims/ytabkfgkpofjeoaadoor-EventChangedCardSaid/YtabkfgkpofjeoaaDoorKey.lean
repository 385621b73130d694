/- text.Key of the seat YtabkfgkpofjeoaaDoor, by hand: what it answers, over the shelf's contract of strings.Fields. -/
import Derived.Test.YtabkfgkpofjeoaaDoorShelf
import Derived.Test.YtabkfgkpofjeoaaDoorWWords
import Derived.Test.YtabkfgkpofjeoaaDoorWLast
import Derived.Below
import Derived.WalkKit
import Derived.ProofKit
import Derived.Tactics
import Derived.Tactics2
import Derived.StillTactics
import Derived.LoopTactic
import Derived.Deep.LoopGhost
import Derived.Deep.DeepCutAuto
import Derived.Deep.CutBlock
import Derived.Deep.RegionHeld3
import Derived.Deep.QuietTactic
import Derived.BigQuiet
import Derived.Deep.Draws
import Derived.Laws.RangeString
import Derived.Laws.RangeAny
import Derived.Laws.Strings
import Derived.Laws.Rows
import Derived.Laws.Slices
import Derived.Laws.BitsLemmas
import Derived.OrdersHeld
import Derived.Lib.LaidTab
import Derived.LaidSub
import Derived.RowKit3
import Derived.KernelRfl
namespace Go.Proofs.YtabkfgkpofjeoaaDoor.Key
open Go.RowKit Go.Proofs.YtabkfgkpofjeoaaDoorW.PrintWords Go.Proofs.YtabkfgkpofjeoaaDoorW.PrintLast
set_option linter.unusedVariables false
set_option linter.unusedSimpArgs false

/-- The table of the library's variable lies in the world. -/
def LaidV (w : World) : Prop := ∃ t fz, w.heap[0]? = some (.cells (Lib.asciiSpaceTab.map fun z => Value.int .u8 z).toArray t fz)
theorem gN : Tryd.prog.globalNamed "strings.asciiSpace" = some 0 := by kernel_rfl
theorem LaidV.keep {w W : World} (h : LaidV w) (hb : Below w.heap.size w W) : LaidV W := by
  obtain ⟨t, fz, h⟩ := h
  refine ⟨t, fz, ?_⟩
  rw [hb.block 0 (by
    by_cases hlt : 0 < w.heap.size
    · exact hlt
    · rw [Array.getElem?_eq_none (by omega)] at h; cases h)]
  exact h
theorem LaidV.tab {w : World} (h : LaidV w) : Lib.TabIs Tryd.prog w "strings.asciiSpace" .u8 Lib.asciiSpaceTab := by
  obtain ⟨t, fz, h⟩ := h
  simp only [Lib.TabIs, World.var?, gN, Option.bind_some, h]
theorem LaidV.of_tab {w : World} (h : Lib.TabIs Tryd.prog w "strings.asciiSpace" .u8 Lib.asciiSpaceTab) : LaidV w := by
  simp only [Lib.TabIs, World.var?, gN, Option.bind_some] at h
  split at h
  · rename_i cs t fz hh
    obtain rfl := Option.some.inj h
    exact ⟨t, fz, hh⟩
  · cases h

/-- The reserved words. -/
def words : List ByteArray := [⟨#[97, 110, 100]⟩, ⟨#[97, 114, 109, 115]⟩, ⟨#[97, 116, 116, 114, 105, 98, 117, 116, 101]⟩, ⟨#[98, 111, 111, 108]⟩, ⟨#[99, 108, 97, 105, 109, 115]⟩, ⟨#[99, 111, 110, 116, 97, 105, 110, 115]⟩, ⟨#[99, 111, 111, 108]⟩, ⟨#[99, 111, 111, 108, 105, 110, 103]⟩, ⟨#[100, 101, 102, 97, 117, 108, 116]⟩, ⟨#[100, 114, 97, 102, 116]⟩, ⟨#[101, 110, 100, 115]⟩, ⟨#[101, 120, 99, 108, 117, 100, 101]⟩, ⟨#[101, 120, 105, 115, 116, 115]⟩, ⟨#[101, 120, 112, 101, 114, 105, 109, 101, 110, 116]⟩, ⟨#[102, 97, 108, 115, 101]⟩, ⟨#[102, 108, 97, 103]⟩, ⟨#[104, 111, 108, 100, 111, 117, 116]⟩, ⟨#[105, 110]⟩, ⟨#[105, 110, 99, 108, 117, 100, 101]⟩, ⟨#[105, 115]⟩, ⟨#[108, 97, 121, 101, 114]⟩, ⟨#[108, 105, 115, 116]⟩, ⟨#[109, 101, 109, 98, 101, 114]⟩, ⟨#[110, 101, 101, 100, 115]⟩, ⟨#[110, 111, 116]⟩, ⟨#[110, 117, 109, 98, 101, 114]⟩, ⟨#[111, 102, 102]⟩, ⟨#[111, 110]⟩, ⟨#[111, 114]⟩, ⟨#[114, 117, 108, 101]⟩, ⟨#[114, 117, 110, 110, 105, 110, 103]⟩, ⟨#[115, 97, 108, 116]⟩, ⟨#[115, 101, 103, 109, 101, 110, 116]⟩, ⟨#[115, 101, 114, 118, 101]⟩, ⟨#[115, 101, 116, 116, 105, 110, 103, 115]⟩, ⟨#[115, 112, 108, 105, 116]⟩, ⟨#[115, 116, 97, 114, 116, 115]⟩, ⟨#[115, 116, 111, 112, 112, 101, 100]⟩, ⟨#[116, 97, 114, 103, 101, 116]⟩, ⟨#[116, 101, 120, 116]⟩, ⟨#[116, 111]⟩, ⟨#[116, 114, 117, 101]⟩, ⟨#[117, 110, 116, 105, 108]⟩, ⟨#[118, 97, 114, 105, 97, 116, 105, 111, 110, 115]⟩, ⟨#[118, 101, 114, 115, 105, 111, 110]⟩, ⟨#[119, 104, 101, 110]⟩]
def fieldsOk (c : ByteArray) : Bool := decide (c.size < 4294967281) && c.data.toList.all (fun b => decide (b.toNat < 128)) && decide (Lib.fields c.data.toList = words.map (·.data.toList))
theorem fields_call (c : ByteArray) (w : World) (h : fieldsOk c = true) (hLV : LaidV w) :
    Calls Tryd.prog 59 #[.string c] w fun e w' => e = .returned (.slice (some ⟨w.heap.size, 0, none⟩) words.length words.length) ∧ w' = w.alloc (.cells (words.map Value.string).toArray 9) := by
  simp only [fieldsOk, Bool.and_eq_true, decide_eq_true_eq] at h
  obtain ⟨⟨h1, h2⟩, h3⟩ := h
  refine (Tryd.strings_Fields_laid c w h1 (fun j b hb => of_decide_eq_true (List.all_eq_true.1 h2 b (List.mem_of_getElem? hb))) hLV.tab).mono ?_
  rintro e w' ⟨rfl, rfl⟩
  rw [h3, List.length_map, List.map_map]
  exact ⟨rfl, by congr 1⟩
theorem listInj {a b : ByteArray} (h : a.toList = b.toList) : a = b := by
  rw [ByteArray.toList_eq, ByteArray.toList_eq] at h
  exact Go.WideShapes.bytes_inj h
theorem addz (b j : Nat) : (⟨b, 0, none⟩ : Addr).add j = ⟨b, j, none⟩ := by
  by_cases hj0 : j = 0 <;> simp [Addr.add, hj0]
/-- May byte b stand at place i of a key? -/
def okB (b : Nat) (i : Nat) : Bool := (decide (97 ≤ b) && decide (b ≤ 122)) || (decide (i ≠ 0) && ((decide (48 ≤ b) && decide (b ≤ 57)) || decide (b = 45) || decide (b = 95)))
def okAt (s : ByteArray) (i : Nat) : Prop := ∃ h : i < s.size, okB (s[i]'h).toNat i = true
def keyP (s : ByteArray) : Prop := (1 ≤ s.size ∧ s.size ≤ 32) ∧ (∀ j, j < s.size → okAt s j) ∧ s ∉ words
instance (s : ByteArray) (i : Nat) : Decidable (okAt s i) := by unfold okAt; infer_instance
def keyB (s : ByteArray) : Bool := (decide (1 ≤ s.size) && decide (s.size ≤ 32)) && ((List.range s.size).all (fun j => decide (okAt s j)) && words.all (fun x => !(decide (x.data = s.data))))
theorem keyB_iff (s : ByteArray) : keyB s = true ↔ keyP s := by
  have hd : ∀ x : ByteArray, x.data = s.data ↔ x = s := fun x => ⟨fun h => by cases x; cases s; simp_all, fun h => by rw [h]⟩
  simp only [keyB, keyP, Bool.and_eq_true, decide_eq_true_eq, List.all_eq_true, List.mem_range, Bool.not_eq_true', decide_eq_false_iff_not, hd]
  constructor
  · rintro ⟨h1, h2, h3⟩
    exact ⟨h1, h2, fun hm => h3 s hm rfl⟩
  · rintro ⟨h1, h2, h3⟩
    exact ⟨h1, h2, fun x hx he => h3 (he ▸ hx)⟩
theorem keyB_true {s : ByteArray} (h : keyP s) : keyB s = true := (keyB_iff s).2 h
theorem keyB_false {s : ByteArray} (h : ¬ keyP s) : keyB s = false := Bool.eq_false_iff.2 fun k => h ((keyB_iff s).1 k)

/-- The world behind a step of the range. -/
def stepTo (w : World) (b : Nat) (s : ByteArray) (pos : Nat) : World := { w with heap := w.heap.setIfInBounds b (.stringIter s pos) }
theorem stepTo_heap {w : World} {b : Nat} {s : ByteArray} {pos : Nat} {o : Obj} (hh : w.heap[b]? = some o) : (stepTo w b s pos).heap[b]? = some (.stringIter s pos) := by
  have hb : b < w.heap.size := by
    by_cases hlt : b < w.heap.size
    · exact hlt
    · rw [Array.getElem?_eq_none (by omega)] at hh; cases hh
  simp [stepTo, Array.getElem?_setIfInBounds, hb]
theorem stepTo_below {B : Nat} {a w : World} {b : Nat} {s : ByteArray} {pos : Nat} (h : Below B a w) (hb : B ≤ b) : Below B a (stepTo w b s pos) :=
  ⟨h.os, h.tape, h.output, by have := h.size; simpa [stepTo] using this, fun k hk => by
    have := h.block k hk
    rw [← this]
    simp only [stepTo]
    rw [Array.getElem?_setIfInBounds_ne (by omega)]⟩
theorem next_in {P : Program} {w : World} {b : Nat} {s : ByteArray} {pos : Nat} (ty : TypeId) (hh : w.heap[b]? = some (.stringIter s pos)) (h : pos < s.size) :
    (Instr.next (.pointer (some ⟨b, 0, none⟩)) true ty).run P w = .ok (.tuple #[.bool true, .int .i64 pos, .int .i32 (Utf8.decode s pos).1]) (stepTo w b s (pos + (Utf8.decode s pos).2)) := by
  simp only [Instr.next, getObj, setObj, Sem.run_bind, Sem.run, hh, Result.andThen, h, if_true]
  simp [goInt, Sem.run, hh, stepTo]
theorem next_end {P : Program} {w : World} {b : Nat} {s : ByteArray} {pos : Nat} (ty : TypeId) (hh : w.heap[b]? = some (.stringIter s pos)) (h : ¬ pos < s.size) :
    (Instr.next (.pointer (some ⟨b, 0, none⟩)) true ty).run P w = .ok (.tuple #[.bool false]) w := by
  simp [Instr.next, getObj, Sem.run, hh, h]

set_option maxHeartbeats 8000000 in
set_option maxRecDepth 1000000 in
theorem key_calls (s : ByteArray) (w : World) (hs : s.size ≤ 9223372036854775807) (hLV0 : LaidV w) :
    Calls Tryd.prog 29 #[.string s] w fun e w' => e = .returned (.bool (keyB s)) ∧ Below w.heap.size w w' := by
  have hLV := Aside0.mk hLV0
  clear hLV0
  by_cases c1 : s.size < 1
  · have c1b : decide ((s.size : Int) < 1) = true := decide_eq_true (by omega)
    have hr := keyB_false (s := s) (fun h => by have := h.1; omega)
    rw [hr]
    go_enter Tryd.func29, Tryd.ntmps29
    go_wp2
    go_ret
    exact ⟨by simp, by repeat (first | (with_reducible first | exact Below.refl _ _ | apply below_alloc | apply pw_below_drewN | apply below_drew1) | exact Below.refl _ _)⟩
  have c1b : decide ((s.size : Int) < 1) = false := decide_eq_false (by omega)
  by_cases c2 : 32 < s.size
  · have c2b : decide (32 < (s.size : Int)) = true := decide_eq_true (by omega)
    have hr := keyB_false (s := s) (fun h => by have := h.1; omega)
    rw [hr]
    go_enter Tryd.func29, Tryd.ntmps29
    go_wp2
    go_ret
    exact ⟨by simp, by repeat (first | (with_reducible first | exact Below.refl _ _ | apply below_alloc | apply pw_below_drewN | apply below_drew1) | exact Below.refl _ _)⟩
  have c2b : decide (32 < (s.size : Int)) = false := decide_eq_false (by omega)
  go_enter Tryd.func29, Tryd.ntmps29
  go_upto_region 4 with (fail)
  go_loopg [3] (s.size + 1) (fun kq v3 w' => ∃ pos : Nat, Aside0 (pos + kq = s.size + 1 ∧ pos ≤ s.size) ∧ Aside0 (w'.heap[w.heap.size]? = some (.stringIter s pos)) ∧ Aside0 (Below w.heap.size w w') ∧ Aside0 (∀ j, j < pos → okAt s j))
  case atStart =>
    refine ⟨0, ⟨by omega⟩, ⟨?_⟩, ⟨?_⟩, ⟨fun j h => absurd h (Nat.not_lt_zero _)⟩⟩
    · exact World.iter_heap _ _ _
    · exact below_alloc (Below.refl _ _) _
  case round =>
    obtain ⟨pos, hk, hi, HB, ho⟩ := hrel
    by_cases hp : pos < s.size
    · have hnx : ∀ ty, (Instr.next (.pointer (some ⟨w.heap.size, 0, none⟩)) true ty).run Tryd.prog wr = _ := fun ty => next_in ty hi.out hp
      have hA : ((Utf8.decode s pos).1 < 128 → (Utf8.decode s pos).1 = (s[pos]'hp).toNat ∧ (Utf8.decode s pos).2 = 1) ∧ (128 ≤ (Utf8.decode s pos).1 → 128 ≤ (s[pos]'hp).toNat) := by
        by_cases ha : (s[pos]'hp).toNat < 128
        · rw [decode_ascii s pos hp ha]; exact ⟨fun _ => ⟨rfl, rfl⟩, fun h => h⟩
        · have := (decode_high s pos hp (by omega)).1; exact ⟨fun h => by omega, fun _ => by omega⟩
      generalize hb : (s[pos]'hp).toNat = b at hA
      have hob : ∀ q : Bool, okB b pos = q → (q = true → okAt s pos) ∧ (q = false → ¬ okAt s pos) := by
        intro q hq
        subst hq
        refine ⟨fun h => ⟨hp, by rw [hb]; exact h⟩, fun h => ?_⟩
        rintro ⟨_, h2⟩
        rw [hb, h] at h2
        cases h2
      have hst : (stepTo wr w.heap.size s (pos + (Utf8.decode s pos).2)).heap[w.heap.size]? = some (.stringIter s (pos + (Utf8.decode s pos).2)) := stepTo_heap hi.out
      have hBst : Below w.heap.size w (stepTo wr w.heap.size s (pos + (Utf8.decode s pos).2)) := stepTo_below HB.out (Nat.le_refl _)
      generalize hW : stepTo wr w.heap.size s (pos + (Utf8.decode s pos).2) = W at hnx hst hBst
      clear hW
      generalize (Utf8.decode s pos).2 = wd at hst hA
      generalize hx : ((Utf8.decode s pos).1 : Int) = x at hnx
      generalize (Utf8.decode s pos).1 = xn at hx hA
      generalize hP : (pos : Int) = P at hnx
      have hst := Aside0.mk hst
      have hBst := Aside0.mk hBst
      have hA := Aside0.mk hA
      have hob := Aside0.mk hob
      have hx := Aside0.mk hx
      have hP := Aside0.mk hP
      by_cases d1 : 97 ≤ x
      · have d1b : decide (97 ≤ x) = true := decide_eq_true d1
        by_cases d2 : x ≤ 122
        · have d2b : decide (x ≤ 122) = true := decide_eq_true d2
          go_wp2
          go_roundg (gk - 1)
          case measure => have := hk.out; omega
          case rel =>
            have ⟨hx1, hx2⟩ := hA.out.1 (by have := hx.out; omega)
            refine ⟨pos + wd, ⟨by have := hk.out; omega⟩, hst, hBst, ⟨fun j hj => ?_⟩⟩
            by_cases hjp : j < pos
            · exact ho.out j hjp
            · obtain rfl : j = pos := by omega
              refine (hob.out true ?_).1 rfl
              have := hx.out; have := hP.out; subst hx1
              simp only [okB, Bool.or_eq_true, Bool.and_eq_true, decide_eq_true_eq]; omega
        · have d2b : decide (x ≤ 122) = false := decide_eq_false d2
          by_cases d3 : P = 0
          · have d3e : (P == 0) = true := by simpa using d3
            have d3n : (P != 0) = false := by simpa using d3
            go_wp2
            go_ret
            refine ⟨?_, by repeat (first | (with_reducible first | exact hBst.out | apply below_alloc | apply pw_below_drewN | apply below_drew1) | exact hBst.out)⟩
            have hno : ¬ okAt s pos := by
              refine (hob.out false ?_).2 rfl
              have hx' := hx.out; have hP' := hP.out
              by_cases hl : xn < 128
              · have ⟨hx1, hx2⟩ := hA.out.1 hl
                subst hx1
                rw [Bool.eq_false_iff]
                simp only [okB, ne_eq, Bool.or_eq_true, Bool.and_eq_true, decide_eq_true_eq]; omega
              · have := hA.out.2 (by omega)
                rw [Bool.eq_false_iff]
                simp only [okB, ne_eq, Bool.or_eq_true, Bool.and_eq_true, decide_eq_true_eq]; omega
            rw [keyB_false (s := s) (fun h => hno (h.2.1 pos hp))]
            rfl
          · have d3e : (P == 0) = false := by simpa using d3
            have d3n : (P != 0) = true := by simpa using d3
            by_cases d4 : x < 48
            · have d4b : decide (x < 48) = true := decide_eq_true d4
              by_cases d5 : x = 45
              · have d5e : (x == 45) = true := by simpa using d5
                have d5n : (x != 45) = false := by simpa using d5
                go_wp2
                go_roundg (gk - 1)
                case measure => have := hk.out; omega
                case rel =>
                  have ⟨hx1, hx2⟩ := hA.out.1 (by have := hx.out; omega)
                  refine ⟨pos + wd, ⟨by have := hk.out; omega⟩, hst, hBst, ⟨fun j hj => ?_⟩⟩
                  by_cases hjp : j < pos
                  · exact ho.out j hjp
                  · obtain rfl : j = pos := by omega
                    refine (hob.out true ?_).1 rfl
                    have := hx.out; have := hP.out; subst hx1
                    simp only [okB, Bool.or_eq_true, Bool.and_eq_true, decide_eq_true_eq]; omega
              · have d5e : (x == 45) = false := by simpa using d5
                have d5n : (x != 45) = true := by simpa using d5
                have e95 : (x == 95) = false := by simp only [beq_eq_false_iff_ne]; omega
                have n95 : (x != 95) = true := by simp only [bne_iff_ne]; omega
                go_wp2
                go_ret
                refine ⟨?_, by repeat (first | (with_reducible first | exact hBst.out | apply below_alloc | apply pw_below_drewN | apply below_drew1) | exact hBst.out)⟩
                have hno : ¬ okAt s pos := by
                  refine (hob.out false ?_).2 rfl
                  have hx' := hx.out; have hP' := hP.out
                  by_cases hl : xn < 128
                  · have ⟨hx1, hx2⟩ := hA.out.1 hl
                    subst hx1
                    rw [Bool.eq_false_iff]
                    simp only [okB, ne_eq, Bool.or_eq_true, Bool.and_eq_true, decide_eq_true_eq]; omega
                  · have := hA.out.2 (by omega)
                    rw [Bool.eq_false_iff]
                    simp only [okB, ne_eq, Bool.or_eq_true, Bool.and_eq_true, decide_eq_true_eq]; omega
                rw [keyB_false (s := s) (fun h => hno (h.2.1 pos hp))]
                rfl
            · have d4b : decide (x < 48) = false := decide_eq_false d4
              by_cases d6 : 57 < x
              · have d6b : decide (57 < x) = true := decide_eq_true d6
                have e45 : (x == 45) = false := by simp only [beq_eq_false_iff_ne]; omega
                have n45 : (x != 45) = true := by simp only [bne_iff_ne]; omega
                by_cases d7 : x = 95
                · have d7e : (x == 95) = true := by simpa using d7
                  have d7n : (x != 95) = false := by simpa using d7
                  go_wp2
                  go_roundg (gk - 1)
                  case measure => have := hk.out; omega
                  case rel =>
                    have ⟨hx1, hx2⟩ := hA.out.1 (by have := hx.out; omega)
                    refine ⟨pos + wd, ⟨by have := hk.out; omega⟩, hst, hBst, ⟨fun j hj => ?_⟩⟩
                    by_cases hjp : j < pos
                    · exact ho.out j hjp
                    · obtain rfl : j = pos := by omega
                      refine (hob.out true ?_).1 rfl
                      have := hx.out; have := hP.out; subst hx1
                      simp only [okB, Bool.or_eq_true, Bool.and_eq_true, decide_eq_true_eq]; omega
                · have d7e : (x == 95) = false := by simpa using d7
                  have d7n : (x != 95) = true := by simpa using d7
                  go_wp2
                  go_ret
                  refine ⟨?_, by repeat (first | (with_reducible first | exact hBst.out | apply below_alloc | apply pw_below_drewN | apply below_drew1) | exact hBst.out)⟩
                  have hno : ¬ okAt s pos := by
                    refine (hob.out false ?_).2 rfl
                    have hx' := hx.out; have hP' := hP.out
                    by_cases hl : xn < 128
                    · have ⟨hx1, hx2⟩ := hA.out.1 hl
                      subst hx1
                      rw [Bool.eq_false_iff]
                      simp only [okB, ne_eq, Bool.or_eq_true, Bool.and_eq_true, decide_eq_true_eq]; omega
                    · have := hA.out.2 (by omega)
                      rw [Bool.eq_false_iff]
                      simp only [okB, ne_eq, Bool.or_eq_true, Bool.and_eq_true, decide_eq_true_eq]; omega
                  rw [keyB_false (s := s) (fun h => hno (h.2.1 pos hp))]
                  rfl
              · have d6b : decide (57 < x) = false := decide_eq_false d6
                go_wp2
                go_roundg (gk - 1)
                case measure => have := hk.out; omega
                case rel =>
                  have ⟨hx1, hx2⟩ := hA.out.1 (by have := hx.out; omega)
                  refine ⟨pos + wd, ⟨by have := hk.out; omega⟩, hst, hBst, ⟨fun j hj => ?_⟩⟩
                  by_cases hjp : j < pos
                  · exact ho.out j hjp
                  · obtain rfl : j = pos := by omega
                    refine (hob.out true ?_).1 rfl
                    have := hx.out; have := hP.out; subst hx1
                    simp only [okB, Bool.or_eq_true, Bool.and_eq_true, decide_eq_true_eq]; omega
      · have d1b : decide (97 ≤ x) = false := decide_eq_false d1
        by_cases d8 : P = 0
        · have d8e : (P == 0) = true := by simpa using d8
          have d8n : (P != 0) = false := by simpa using d8
          go_wp2
          go_ret
          refine ⟨?_, by repeat (first | (with_reducible first | exact hBst.out | apply below_alloc | apply pw_below_drewN | apply below_drew1) | exact hBst.out)⟩
          have hno : ¬ okAt s pos := by
            refine (hob.out false ?_).2 rfl
            have hx' := hx.out; have hP' := hP.out
            by_cases hl : xn < 128
            · have ⟨hx1, hx2⟩ := hA.out.1 hl
              subst hx1
              rw [Bool.eq_false_iff]
              simp only [okB, ne_eq, Bool.or_eq_true, Bool.and_eq_true, decide_eq_true_eq]; omega
            · have := hA.out.2 (by omega)
              rw [Bool.eq_false_iff]
              simp only [okB, ne_eq, Bool.or_eq_true, Bool.and_eq_true, decide_eq_true_eq]; omega
          rw [keyB_false (s := s) (fun h => hno (h.2.1 pos hp))]
          rfl
        · have d8e : (P == 0) = false := by simpa using d8
          have d8n : (P != 0) = true := by simpa using d8
          by_cases d9 : x < 48
          · have d9b : decide (x < 48) = true := decide_eq_true d9
            by_cases d10 : x = 45
            · have d10e : (x == 45) = true := by simpa using d10
              have d10n : (x != 45) = false := by simpa using d10
              go_wp2
              go_roundg (gk - 1)
              case measure => have := hk.out; omega
              case rel =>
                have ⟨hx1, hx2⟩ := hA.out.1 (by have := hx.out; omega)
                refine ⟨pos + wd, ⟨by have := hk.out; omega⟩, hst, hBst, ⟨fun j hj => ?_⟩⟩
                by_cases hjp : j < pos
                · exact ho.out j hjp
                · obtain rfl : j = pos := by omega
                  refine (hob.out true ?_).1 rfl
                  have := hx.out; have := hP.out; subst hx1
                  simp only [okB, Bool.or_eq_true, Bool.and_eq_true, decide_eq_true_eq]; omega
            · have d10e : (x == 45) = false := by simpa using d10
              have d10n : (x != 45) = true := by simpa using d10
              have e95 : (x == 95) = false := by simp only [beq_eq_false_iff_ne]; omega
              have n95 : (x != 95) = true := by simp only [bne_iff_ne]; omega
              go_wp2
              go_ret
              refine ⟨?_, by repeat (first | (with_reducible first | exact hBst.out | apply below_alloc | apply pw_below_drewN | apply below_drew1) | exact hBst.out)⟩
              have hno : ¬ okAt s pos := by
                refine (hob.out false ?_).2 rfl
                have hx' := hx.out; have hP' := hP.out
                by_cases hl : xn < 128
                · have ⟨hx1, hx2⟩ := hA.out.1 hl
                  subst hx1
                  rw [Bool.eq_false_iff]
                  simp only [okB, ne_eq, Bool.or_eq_true, Bool.and_eq_true, decide_eq_true_eq]; omega
                · have := hA.out.2 (by omega)
                  rw [Bool.eq_false_iff]
                  simp only [okB, ne_eq, Bool.or_eq_true, Bool.and_eq_true, decide_eq_true_eq]; omega
              rw [keyB_false (s := s) (fun h => hno (h.2.1 pos hp))]
              rfl
          · have d9b : decide (x < 48) = false := decide_eq_false d9
            by_cases d11 : 57 < x
            · have d11b : decide (57 < x) = true := decide_eq_true d11
              have e45 : (x == 45) = false := by simp only [beq_eq_false_iff_ne]; omega
              have n45 : (x != 45) = true := by simp only [bne_iff_ne]; omega
              by_cases d12 : x = 95
              · have d12e : (x == 95) = true := by simpa using d12
                have d12n : (x != 95) = false := by simpa using d12
                go_wp2
                go_roundg (gk - 1)
                case measure => have := hk.out; omega
                case rel =>
                  have ⟨hx1, hx2⟩ := hA.out.1 (by have := hx.out; omega)
                  refine ⟨pos + wd, ⟨by have := hk.out; omega⟩, hst, hBst, ⟨fun j hj => ?_⟩⟩
                  by_cases hjp : j < pos
                  · exact ho.out j hjp
                  · obtain rfl : j = pos := by omega
                    refine (hob.out true ?_).1 rfl
                    have := hx.out; have := hP.out; subst hx1
                    simp only [okB, Bool.or_eq_true, Bool.and_eq_true, decide_eq_true_eq]; omega
              · have d12e : (x == 95) = false := by simpa using d12
                have d12n : (x != 95) = true := by simpa using d12
                go_wp2
                go_ret
                refine ⟨?_, by repeat (first | (with_reducible first | exact hBst.out | apply below_alloc | apply pw_below_drewN | apply below_drew1) | exact hBst.out)⟩
                have hno : ¬ okAt s pos := by
                  refine (hob.out false ?_).2 rfl
                  have hx' := hx.out; have hP' := hP.out
                  by_cases hl : xn < 128
                  · have ⟨hx1, hx2⟩ := hA.out.1 hl
                    subst hx1
                    rw [Bool.eq_false_iff]
                    simp only [okB, ne_eq, Bool.or_eq_true, Bool.and_eq_true, decide_eq_true_eq]; omega
                  · have := hA.out.2 (by omega)
                    rw [Bool.eq_false_iff]
                    simp only [okB, ne_eq, Bool.or_eq_true, Bool.and_eq_true, decide_eq_true_eq]; omega
                rw [keyB_false (s := s) (fun h => hno (h.2.1 pos hp))]
                rfl
            · have d11b : decide (57 < x) = false := decide_eq_false d11
              go_wp2
              go_roundg (gk - 1)
              case measure => have := hk.out; omega
              case rel =>
                have ⟨hx1, hx2⟩ := hA.out.1 (by have := hx.out; omega)
                refine ⟨pos + wd, ⟨by have := hk.out; omega⟩, hst, hBst, ⟨fun j hj => ?_⟩⟩
                by_cases hjp : j < pos
                · exact ho.out j hjp
                · obtain rfl : j = pos := by omega
                  refine (hob.out true ?_).1 rfl
                  have := hx.out; have := hP.out; subst hx1
                  simp only [okB, Bool.or_eq_true, Bool.and_eq_true, decide_eq_true_eq]; omega
    · have hnx : ∀ ty, (Instr.next (.pointer (some ⟨w.heap.size, 0, none⟩)) true ty).run Tryd.prog wr = _ := fun ty => next_end ty hi.out hp
      have hall : Aside0 (∀ j, j < s.size → okAt s j) := ⟨fun j hj => ho.out j (by have := hk.out; omega)⟩
      have hLw := Aside0.mk (hLV.out.keep HB.out)
      clear hk hi ho hLV
      go_upto_region 10 with (go_at_call 59; refine (fields_call _ _ (by kernel_rfl) (LaidV.keep hLw.out (by repeat (first | (with_reducible first | exact Below.refl _ _ | apply below_alloc | apply pw_below_drewN | apply below_drew1) | exact Below.refl _ _)))).mono ?_; rintro e w' ⟨rfl, rfl⟩)
      have hC0 : Kd.C Kd.string (wr.alloc (.cells (words.map Value.string).toArray 9)) (some ⟨wr.heap.size, 0, none⟩) words.length words := by
        refine Kd.C_of_reads (d := ByteArray.empty) ⟨rfl, by decide, fun _ => ⟨_, rfl, fun j hj => ?_⟩⟩
        have := World.cell?_alloc_new wr (words.map Value.string).toArray 9 j
        rw [addz, this]
        simp [hj, List.getD_eq_getElem?_getD]
      go_loopg [52] (words.length + 1) (fun kq v52 w' => ∃ (x52 : Int) (i : Nat), v52 = .int .i64 x52 ∧ Aside0 (x52 = i) ∧ Aside0 (i + kq = words.length + 1 ∧ i ≤ words.length) ∧ Aside0 (Kd.C Kd.string w' (some ⟨wr.heap.size, 0, none⟩) words.length words) ∧ Aside0 (Below w.heap.size w w') ∧ Aside0 (∀ j X, j < i → words[j]? = some X → X ≠ s))
      case atStart =>
        exact ⟨0, 0, rfl, ⟨rfl⟩, ⟨by omega⟩, ⟨hC0⟩, ⟨below_alloc HB.out _⟩, ⟨fun j X h => absurd h (Nat.not_lt_zero _)⟩⟩
      case round =>
        clear hC0 hnx HB hLw
        obtain ⟨x52, i, rfl, hxi, hk, hC, HB, hne⟩ := hrel
        by_cases c8 : i < words.length
        · have hxi' := hxi.out
          have c8b : decide (x52 < (words.length : Int)) = true := decide_eq_true (by omega)
          obtain ⟨ad, e125, hx125⟩ := Kd.at_string hC.out x52 (by omega) (by omega)
          cases e125
          rw [addz] at hx125
          have p125 : (0 ≤ x52) = True := eq_true (by omega)
          have q125 : (x52 < (words.length : Int)) = True := eq_true (by omega)
          have hrd : words[i]? = some (rdOf ByteArray.empty words x52) := by
            have hn : x52.toNat = i := by omega
            simp [rdOf, hn, List.getD_eq_getElem?_getD, c8]
          clear hxi'
          by_cases c10 : (rdOf ByteArray.empty words x52).toList = s.toList
          · have c10b0 : ((rdOf ByteArray.empty words x52).toList == s.toList) = true := beq_iff_eq.mpr c10
            have hres := keyB_false (s := s) (fun h => h.2.2 (by rw [← listInj c10]; exact List.mem_of_getElem? hrd))
            have hres := Aside0.mk hres
            clear hrd c10
            go_wp2
            go_ret
            refine ⟨?_, by repeat (first | (with_reducible first | exact HB.out | apply below_alloc | apply pw_below_drewN | apply below_drew1) | exact HB.out)⟩
            rw [hres.out]
            rfl
          · have c10b0 : ((rdOf ByteArray.empty words x52).toList == s.toList) = false := beq_eq_false_iff_ne.mpr c10
            have hni : Aside0 (rdOf ByteArray.empty words x52 ≠ s) := ⟨fun h => c10 (by rw [h])⟩
            have hrd := Aside0.mk hrd
            clear c10
            go_wp2
            go_roundg (gk - 1)
            case measure => have := hk.out; omega
            case rel =>
              refine ⟨wrap64 (x52 + 1), i + 1, rfl, ⟨?_⟩, ⟨by have := hk.out; omega⟩, ⟨by (with_reducible repeat (first | apply Kd.C_alloc | apply Kd.C_drewN | apply Kd.C_drew)); exact hC.out⟩, ⟨by repeat (first | (with_reducible first | exact HB.out | apply below_alloc | apply pw_below_drewN | apply below_drew1) | exact HB.out)⟩, ⟨fun j X hj hX => ?_⟩⟩
              · have : words.length ≤ 1000 := by decide
                have := hxi.out
                unfold wrap64; omega
              · by_cases hji : j < i
                · exact hne.out j X hji hX
                · obtain rfl : j = i := by omega
                  rw [hrd.out] at hX
                  cases hX
                  exact hni.out
        · have c8b : decide (x52 < (words.length : Int)) = false := decide_eq_false (by have := hxi.out; omega)
          have hres := keyB_true (s := s) ⟨⟨by omega, by omega⟩, hall.out, fun hm => by
            obtain ⟨j, hj, hX⟩ := List.mem_iff_getElem.1 hm
            exact hne.out j s (by omega) (by rw [List.getElem?_eq_getElem hj, hX]) rfl⟩
          have hres := Aside0.mk hres
          go_wp2
          go_ret
          refine ⟨?_, by repeat (first | (with_reducible first | exact HB.out | apply below_alloc | apply pw_below_drewN | apply below_drew1) | exact HB.out)⟩
          rw [hres.out]
          rfl
end Go.Proofs.YtabkfgkpofjeoaaDoor.Key
