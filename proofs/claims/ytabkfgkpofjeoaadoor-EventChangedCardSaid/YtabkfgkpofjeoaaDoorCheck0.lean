/- Check: the program's and the document's. -/
import Derived.Test.YtabkfgkpofjeoaaDoorKey0
set_option linter.unusedVariables false
set_option linter.unusedSimpArgs false
set_option maxRecDepth 100000
namespace Go.Proofs.YtabkfgkpofjeoaaDoor.Check0
open Go Go.Sy Go.Proofs.YtabkfgkpofjeoaaDoor.F Go.Proofs.YtabkfgkpofjeoaaDoor.Base Go.Proofs.YtabkfgkpofjeoaaDoor.Key0
theorem bind_cond {α β : Type} (c : Bool) (a b : Option α) (f : α → Option β) : Option.bind (bif c then a else b) f = bif c then Option.bind a f else Option.bind b f := by cases c <;> rfl
theorem cond_some {α : Type} (c : Bool) (a b : α) : (bif c then some a else some b) = some (bif c then a else b) := by cases c <;> rfl
theorem cond_false2 (c k : Bool) : (bif c then (k, ()) else (false, ())) = ((c && k, ()) : Bool × Unit) := by cases c <;> rfl
/-- An event's first error. -/
def checkB (exp mea lnk k1 k2 k3 k4 s1 s2 t1 t2 v1 v2 a1 a2 m1 m2 o vn an wn nn oi : Bool) : Int :=
  bif !exp && (!mea && !lnk) then 7 else
  bif !k1 then 6 else bif !k2 then 6 else bif !lnk && !k3 then 6 else bif lnk && !k4 then 6 else
  bif s1 then 3 else bif s2 then 3 else bif t1 then 3 else bif t2 then 3 else
  bif exp && (v1 || (v2 || (a1 || a2))) then 3 else bif mea && (m1 || m2) then 3 else
  bif exp && (o || wn) then 15 else bif mea && (o || (vn || an)) then 15 else bif lnk && (nn || (vn || (an || (wn || oi)))) then 15 else 0
def check (e : Ev) : Int :=
  checkB (e.2.2.1 == 1) (e.2.2.1 == 2) (e.2.2.1 == 3) (keyB e.1) (keyB e.2.2.2.2.1) (keyB e.2.2.2.2.2.1) (keyB e.2.2.2.2.2.2.1) (decide (e.2.1 < 1)) (decide (e.2.1 > 1073741824)) (decide (e.2.2.2.1 < 0)) (decide (e.2.2.2.1 > 1099511627776))
    (decide (e.2.2.2.2.2.2.2.1 < 0)) (decide (e.2.2.2.2.2.2.2.1 > 1099511627776)) (decide (e.2.2.2.2.2.2.2.2.1 < 1)) (decide (e.2.2.2.2.2.2.2.2.1 > 8)) (decide (e.2.2.2.2.2.2.2.2.2.1 < (-1099511627776))) (decide (e.2.2.2.2.2.2.2.2.2.1 > 1099511627776))
    (!seq e.2.2.2.2.2.2.1 ⟨#[]⟩) (e.2.2.2.2.2.2.2.1 != 0) (e.2.2.2.2.2.2.2.2.1 != 0) (e.2.2.2.2.2.2.2.2.2.1 != 0) (!seq e.2.2.2.2.2.1 ⟨#[]⟩) (seq e.2.2.2.2.2.2.1 e.2.2.2.2.1)
theorem kinds (k : Int) : ((k == 1) = true ∧ (k == 2) = false ∧ (k == 3) = false) ∨ ((k == 1) = false ∧ (k == 2) = true ∧ (k == 3) = false) ∨ ((k == 1) = false ∧ (k == 2) = false ∧ (k == 3) = true) ∨ ((k == 1) = false ∧ (k == 2) = false ∧ (k == 3) = false) := by
  by_cases h1 : k = 1
  · subst h1; exact .inl ⟨rfl, rfl, rfl⟩
  · by_cases h2 : k = 2
    · subst h2; exact .inr (.inl ⟨rfl, rfl, rfl⟩)
    · by_cases h3 : k = 3
      · subst h3; exact .inr (.inr (.inl ⟨rfl, rfl, rfl⟩))
      · refine .inr (.inr (.inr ⟨?_, ?_, ?_⟩)) <;> simpa using by assumption
structure Sizes (e : Ev) : Prop where
  c : e.1.size ≤ maxLen
  i : e.2.2.2.2.1.size ≤ maxLen
  n : e.2.2.2.2.2.1.size ≤ maxLen
  o : e.2.2.2.2.2.2.1.size ≤ maxLen
theorem Sizes.of {e : Ev} (h : Wf EvT e) : Sizes e := ⟨h.1, h.2.2.2.2.1, h.2.2.2.2.2.1, h.2.2.2.2.2.2.1⟩
theorem event_Check_eq (e : Ev) (h : Sizes e) : event_Check_C (e, ()) = some (check e, ()) := by
  unfold event_Check_C event_Check_F check
  simp only [tkey_eq _ h.c, tkey_eq _ h.i, tkey_eq _ h.n, tkey_eq _ h.o, Option.bind_some, cond_some, Option.map_some, bind_cond]
  generalize keyB e.1 = k1
  generalize keyB e.2.2.2.2.1 = k2
  generalize keyB e.2.2.2.2.2.1 = k3
  generalize keyB e.2.2.2.2.2.2.1 = k4
  generalize decide (e.2.1 < 1) = s1
  generalize decide (e.2.1 > 1073741824) = s2
  generalize decide (e.2.2.2.1 < 0) = t1
  generalize decide (e.2.2.2.1 > 1099511627776) = t2
  generalize decide (e.2.2.2.2.2.2.2.1 < 0) = v1
  generalize decide (e.2.2.2.2.2.2.2.1 > 1099511627776) = v2
  generalize decide (e.2.2.2.2.2.2.2.2.1 < 1) = a1
  generalize decide (e.2.2.2.2.2.2.2.2.1 > 8) = a2
  generalize decide (e.2.2.2.2.2.2.2.2.2.1 < (-1099511627776)) = m1
  generalize decide (e.2.2.2.2.2.2.2.2.2.1 > 1099511627776) = m2
  generalize seq e.2.2.2.2.2.2.1 ⟨#[]⟩ = o
  generalize (e.2.2.2.2.2.2.2.1 != 0) = vn
  generalize (e.2.2.2.2.2.2.2.2.1 != 0) = an
  generalize (e.2.2.2.2.2.2.2.2.2.1 != 0) = wn
  generalize seq e.2.2.2.2.2.1 ⟨#[]⟩ = nn
  generalize seq e.2.2.2.2.2.2.1 e.2.2.2.2.1 = oi
  rcases kinds e.2.2.1 with ⟨x1, x2, x3⟩ | ⟨x1, x2, x3⟩ | ⟨x1, x2, x3⟩ | ⟨x1, x2, x3⟩ <;> rw [x1, x2, x3]
  · cases k1; · rfl
    cases k2; · rfl
    cases k3; · rfl
    cases s1; rotate_left; · rfl
    cases s2; rotate_left; · rfl
    cases t1; rotate_left; · rfl
    cases t2; rotate_left; · rfl
    cases v1; rotate_left; · rfl
    cases v2; rotate_left; · rfl
    cases a1; rotate_left; · rfl
    cases a2; rotate_left; · rfl
    cases o; · rfl
    cases wn <;> rfl
  · cases k1; · rfl
    cases k2; · rfl
    cases k3; · rfl
    cases s1; rotate_left; · rfl
    cases s2; rotate_left; · rfl
    cases t1; rotate_left; · rfl
    cases t2; rotate_left; · rfl
    cases m1; rotate_left; · rfl
    cases m2; rotate_left; · rfl
    cases o; · rfl
    cases vn; rotate_left; · rfl
    cases an <;> rfl
  · cases k1; · rfl
    cases k2; · rfl
    cases k4; · rfl
    cases s1; rotate_left; · rfl
    cases s2; rotate_left; · rfl
    cases t1; rotate_left; · rfl
    cases t2; rotate_left; · rfl
    cases nn; · rfl
    cases vn; rotate_left; · rfl
    cases an; rotate_left; · rfl
    cases wn; rotate_left; · rfl
    cases oi <;> rfl
  · rfl
theorem within_eq (n a b : Int) : ref28_within_C (n, a, b, ()) = some (!decide (n < a) && !decide (n > b), ()) := by
  unfold ref28_within_C ref28_within_F
  simp only
  congr 2
  by_cases h1 : n < a <;> by_cases h2 : n > b <;> simp [h1, h2] <;> omega
theorem ref28_Check_eq (e : Ev) (h : Sizes e) : ref28_Check_C (e, ()) = some (check e, ()) := by
  unfold ref28_Check_C ref28_Check_F check
  simp only [key_eq _ h.c, key_eq _ h.i, key_eq _ h.n, key_eq _ h.o, within_eq, Option.bind_some, cond_some, cond_false2]
  generalize keyB e.1 = k1
  generalize keyB e.2.2.2.2.1 = k2
  generalize keyB e.2.2.2.2.2.1 = k3
  generalize keyB e.2.2.2.2.2.2.1 = k4
  generalize decide (e.2.1 < 1) = s1
  generalize decide (e.2.1 > 1073741824) = s2
  generalize decide (e.2.2.2.1 < 0) = t1
  generalize decide (e.2.2.2.1 > 1099511627776) = t2
  generalize decide (e.2.2.2.2.2.2.2.1 < 0) = v1
  generalize decide (e.2.2.2.2.2.2.2.1 > 1099511627776) = v2
  generalize decide (e.2.2.2.2.2.2.2.2.1 < 1) = a1
  generalize decide (e.2.2.2.2.2.2.2.2.1 > 8) = a2
  generalize decide (e.2.2.2.2.2.2.2.2.2.1 < (-1099511627776)) = m1
  generalize decide (e.2.2.2.2.2.2.2.2.2.1 > 1099511627776) = m2
  generalize seq e.2.2.2.2.2.2.1 ⟨#[]⟩ = o
  generalize (e.2.2.2.2.2.2.2.1 != 0) = vn
  generalize (e.2.2.2.2.2.2.2.2.1 != 0) = an
  generalize (e.2.2.2.2.2.2.2.2.2.1 != 0) = wn
  generalize seq e.2.2.2.2.2.1 ⟨#[]⟩ = nn
  generalize seq e.2.2.2.2.2.2.1 e.2.2.2.2.1 = oi
  rcases kinds e.2.2.1 with ⟨x1, x2, x3⟩ | ⟨x1, x2, x3⟩ | ⟨x1, x2, x3⟩ | ⟨x1, x2, x3⟩ <;> rw [x1, x2, x3]
  · cases k1; · rfl
    cases k2; · rfl
    cases k3; · rfl
    cases s1; rotate_left; · rfl
    cases s2; rotate_left; · rfl
    cases t1; rotate_left; · rfl
    cases t2; rotate_left; · rfl
    cases v1; rotate_left; · rfl
    cases v2; rotate_left; · rfl
    cases a1; rotate_left; · rfl
    cases a2; rotate_left; · rfl
    cases o; · rfl
    cases wn <;> rfl
  · cases k1; · rfl
    cases k2; · rfl
    cases k3; · rfl
    cases s1; rotate_left; · rfl
    cases s2; rotate_left; · rfl
    cases t1; rotate_left; · rfl
    cases t2; rotate_left; · rfl
    cases m1; rotate_left; · rfl
    cases m2; rotate_left; · rfl
    cases o; · rfl
    cases vn; rotate_left; · rfl
    cases an <;> rfl
  · cases k1; · rfl
    cases k2; · rfl
    cases k4; · rfl
    cases s1; rotate_left; · rfl
    cases s2; rotate_left; · rfl
    cases t1; rotate_left; · rfl
    cases t2; rotate_left; · rfl
    cases vn; rotate_left; · cases nn <;> rfl
    cases an; rotate_left; · cases nn <;> rfl
    cases wn; rotate_left; · cases nn <;> rfl
    cases nn; · rfl
    cases oi <;> rfl
  · rfl
end Go.Proofs.YtabkfgkpofjeoaaDoor.Check0
