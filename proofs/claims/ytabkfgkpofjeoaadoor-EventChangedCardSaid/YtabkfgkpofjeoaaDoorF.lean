/- The functions of the seat over plain values, printed by a program of this work (wip/gen): NAME_F as the evaluator gives it, NAME_C what its contract says. -/
import Derived.Test.YtabkfgkpofjeoaaDoorSyA
set_option maxRecDepth 100000
set_option linter.unusedVariables false
namespace Go.Proofs.YtabkfgkpofjeoaaDoor.F
open Go Go.Sy
/-- The reserved words. -/
def words : List ByteArray := [⟨#[97, 110, 100]⟩, ⟨#[97, 114, 109, 115]⟩, ⟨#[97, 116, 116, 114, 105, 98, 117, 116, 101]⟩, ⟨#[98, 111, 111, 108]⟩, ⟨#[99, 108, 97, 105, 109, 115]⟩, ⟨#[99, 111, 110, 116, 97, 105, 110, 115]⟩, ⟨#[99, 111, 111, 108]⟩, ⟨#[99, 111, 111, 108, 105, 110, 103]⟩, ⟨#[100, 101, 102, 97, 117, 108, 116]⟩, ⟨#[100, 114, 97, 102, 116]⟩, ⟨#[101, 110, 100, 115]⟩, ⟨#[101, 120, 99, 108, 117, 100, 101]⟩, ⟨#[101, 120, 105, 115, 116, 115]⟩, ⟨#[101, 120, 112, 101, 114, 105, 109, 101, 110, 116]⟩, ⟨#[102, 97, 108, 115, 101]⟩, ⟨#[102, 108, 97, 103]⟩, ⟨#[104, 111, 108, 100, 111, 117, 116]⟩, ⟨#[105, 110]⟩, ⟨#[105, 110, 99, 108, 117, 100, 101]⟩, ⟨#[105, 115]⟩, ⟨#[108, 97, 121, 101, 114]⟩, ⟨#[108, 105, 115, 116]⟩, ⟨#[109, 101, 109, 98, 101, 114]⟩, ⟨#[110, 101, 101, 100, 115]⟩, ⟨#[110, 111, 116]⟩, ⟨#[110, 117, 109, 98, 101, 114]⟩, ⟨#[111, 102, 102]⟩, ⟨#[111, 110]⟩, ⟨#[111, 114]⟩, ⟨#[114, 117, 108, 101]⟩, ⟨#[114, 117, 110, 110, 105, 110, 103]⟩, ⟨#[115, 97, 108, 116]⟩, ⟨#[115, 101, 103, 109, 101, 110, 116]⟩, ⟨#[115, 101, 114, 118, 101]⟩, ⟨#[115, 101, 116, 116, 105, 110, 103, 115]⟩, ⟨#[115, 112, 108, 105, 116]⟩, ⟨#[115, 116, 97, 114, 116, 115]⟩, ⟨#[115, 116, 111, 112, 112, 101, 100]⟩, ⟨#[116, 97, 114, 103, 101, 116]⟩, ⟨#[116, 101, 120, 116]⟩, ⟨#[116, 111]⟩, ⟨#[116, 114, 117, 101]⟩, ⟨#[117, 110, 116, 105, 108]⟩, ⟨#[118, 97, 114, 105, 97, 116, 105, 111, 110, 115]⟩, ⟨#[118, 101, 114, 115, 105, 111, 110]⟩, ⟨#[119, 104, 101, 110]⟩]
/-- May byte b stand at place i of a key? -/
def okB (b : Nat) (i : Nat) : Bool := (decide (97 ≤ b) && decide (b ≤ 122)) || (decide (i ≠ 0) && ((decide (48 ≤ b) && decide (b ≤ 57)) || decide (b = 45) || decide (b = 95)))
def okAt (s : ByteArray) (i : Nat) : Prop := ∃ h : i < s.size, okB (s[i]'h).toNat i = true
instance (s : ByteArray) (i : Nat) : Decidable (okAt s i) := by unfold okAt; infer_instance
def keyB (s : ByteArray) : Bool := (decide (1 ≤ s.size) && decide (s.size ≤ 32)) && ((List.range s.size).all (fun j => decide (okAt s j)) && words.all (fun x => !(decide (x.data = s.data))))
def text_Key_C : (ByteArray × Unit) → Option (Bool × Unit) := fun x => bif decide (x.1.size ≤ 9223372036854775807) then some (keyB x.1, ()) else none

/-- flagstone/event.Check -/
def event_Check_F (fuel : Nat) : ((ByteArray × (Int × (Int × (Int × (ByteArray × (ByteArray × (ByteArray × (Int × (Int × (Int × Unit)))))))))) × Unit) → Option (Int × Unit) := fun x =>
Option.bind (α := (Unit × (Unit × Unit)) ⊕ (Int × Unit)) (bif (bif (bif !(x.1.2.2.1 == 1) then !(x.1.2.2.1 == 2) else false) then !(x.1.2.2.1 == 3) else false) then
(Option.map Sum.inr (some (7, ())))
else
Option.bind (text_Key_C (x.1.1, ())) fun r2 =>
bif !r2.1 then
(bif !r2.1 then
(Option.map Sum.inr (some (6, ())))
else
bif decide (x.1.2.1 < 1) then
(bif decide (x.1.2.1 < 1) then
(Option.map Sum.inr (some (3, ())))
else
bif (bif x.1.2.2.1 == 1 then (bif (bif (bif decide (x.1.2.2.2.2.2.2.2.1 < 0) then true else decide (x.1.2.2.2.2.2.2.2.1 > 1099511627776)) then true else decide (x.1.2.2.2.2.2.2.2.2.1 < 1)) then true else decide (x.1.2.2.2.2.2.2.2.2.1 > 8)) else false) then
(Option.map Sum.inr (some (3, ())))
else
bif (bif x.1.2.2.1 == 2 then (bif decide (x.1.2.2.2.2.2.2.2.2.2.1 < (-1099511627776)) then true else decide (x.1.2.2.2.2.2.2.2.2.2.1 > 1099511627776)) else false) then
(Option.map Sum.inr (some (3, ())))
else
bif (bif x.1.2.2.1 == 1 then (bif !seq x.1.2.2.2.2.2.2.1 (⟨#[]⟩ : ByteArray) then true else x.1.2.2.2.2.2.2.2.2.2.1 != 0) else false) then
(Option.map Sum.inr (some (15, ())))
else
bif (bif x.1.2.2.1 == 2 then (bif (bif !seq x.1.2.2.2.2.2.2.1 (⟨#[]⟩ : ByteArray) then true else x.1.2.2.2.2.2.2.2.1 != 0) then true else x.1.2.2.2.2.2.2.2.2.1 != 0) else false) then
(Option.map Sum.inr (some (15, ())))
else
bif (bif x.1.2.2.1 == 3 then (bif (bif (bif (bif !seq x.1.2.2.2.2.2.1 (⟨#[]⟩ : ByteArray) then true else x.1.2.2.2.2.2.2.2.1 != 0) then true else x.1.2.2.2.2.2.2.2.2.1 != 0) then true else x.1.2.2.2.2.2.2.2.2.2.1 != 0) then true else seq x.1.2.2.2.2.2.2.1 x.1.2.2.2.2.1) else false) then
(Option.map Sum.inr (some (15, ())))
else
some (Sum.inl ((), (), ())))
else
bif decide (x.1.2.1 > 1073741824) then
(bif decide (x.1.2.1 > 1073741824) then
(Option.map Sum.inr (some (3, ())))
else
bif (bif x.1.2.2.1 == 1 then (bif (bif (bif decide (x.1.2.2.2.2.2.2.2.1 < 0) then true else decide (x.1.2.2.2.2.2.2.2.1 > 1099511627776)) then true else decide (x.1.2.2.2.2.2.2.2.2.1 < 1)) then true else decide (x.1.2.2.2.2.2.2.2.2.1 > 8)) else false) then
(Option.map Sum.inr (some (3, ())))
else
bif (bif x.1.2.2.1 == 2 then (bif decide (x.1.2.2.2.2.2.2.2.2.2.1 < (-1099511627776)) then true else decide (x.1.2.2.2.2.2.2.2.2.2.1 > 1099511627776)) else false) then
(Option.map Sum.inr (some (3, ())))
else
bif (bif x.1.2.2.1 == 1 then (bif !seq x.1.2.2.2.2.2.2.1 (⟨#[]⟩ : ByteArray) then true else x.1.2.2.2.2.2.2.2.2.2.1 != 0) else false) then
(Option.map Sum.inr (some (15, ())))
else
bif (bif x.1.2.2.1 == 2 then (bif (bif !seq x.1.2.2.2.2.2.2.1 (⟨#[]⟩ : ByteArray) then true else x.1.2.2.2.2.2.2.2.1 != 0) then true else x.1.2.2.2.2.2.2.2.2.1 != 0) else false) then
(Option.map Sum.inr (some (15, ())))
else
bif (bif x.1.2.2.1 == 3 then (bif (bif (bif (bif !seq x.1.2.2.2.2.2.1 (⟨#[]⟩ : ByteArray) then true else x.1.2.2.2.2.2.2.2.1 != 0) then true else x.1.2.2.2.2.2.2.2.2.1 != 0) then true else x.1.2.2.2.2.2.2.2.2.2.1 != 0) then true else seq x.1.2.2.2.2.2.2.1 x.1.2.2.2.2.1) else false) then
(Option.map Sum.inr (some (15, ())))
else
some (Sum.inl ((), (), ())))
else
bif decide (x.1.2.2.2.1 < 0) then
(bif decide (x.1.2.2.2.1 < 0) then
(Option.map Sum.inr (some (3, ())))
else
bif (bif x.1.2.2.1 == 1 then (bif (bif (bif decide (x.1.2.2.2.2.2.2.2.1 < 0) then true else decide (x.1.2.2.2.2.2.2.2.1 > 1099511627776)) then true else decide (x.1.2.2.2.2.2.2.2.2.1 < 1)) then true else decide (x.1.2.2.2.2.2.2.2.2.1 > 8)) else false) then
(Option.map Sum.inr (some (3, ())))
else
bif (bif x.1.2.2.1 == 2 then (bif decide (x.1.2.2.2.2.2.2.2.2.2.1 < (-1099511627776)) then true else decide (x.1.2.2.2.2.2.2.2.2.2.1 > 1099511627776)) else false) then
(Option.map Sum.inr (some (3, ())))
else
bif (bif x.1.2.2.1 == 1 then (bif !seq x.1.2.2.2.2.2.2.1 (⟨#[]⟩ : ByteArray) then true else x.1.2.2.2.2.2.2.2.2.2.1 != 0) else false) then
(Option.map Sum.inr (some (15, ())))
else
bif (bif x.1.2.2.1 == 2 then (bif (bif !seq x.1.2.2.2.2.2.2.1 (⟨#[]⟩ : ByteArray) then true else x.1.2.2.2.2.2.2.2.1 != 0) then true else x.1.2.2.2.2.2.2.2.2.1 != 0) else false) then
(Option.map Sum.inr (some (15, ())))
else
bif (bif x.1.2.2.1 == 3 then (bif (bif (bif (bif !seq x.1.2.2.2.2.2.1 (⟨#[]⟩ : ByteArray) then true else x.1.2.2.2.2.2.2.2.1 != 0) then true else x.1.2.2.2.2.2.2.2.2.1 != 0) then true else x.1.2.2.2.2.2.2.2.2.2.1 != 0) then true else seq x.1.2.2.2.2.2.2.1 x.1.2.2.2.2.1) else false) then
(Option.map Sum.inr (some (15, ())))
else
some (Sum.inl ((), (), ())))
else
bif decide (x.1.2.2.2.1 > 1099511627776) then
(Option.map Sum.inr (some (3, ())))
else
bif (bif x.1.2.2.1 == 1 then (bif (bif (bif decide (x.1.2.2.2.2.2.2.2.1 < 0) then true else decide (x.1.2.2.2.2.2.2.2.1 > 1099511627776)) then true else decide (x.1.2.2.2.2.2.2.2.2.1 < 1)) then true else decide (x.1.2.2.2.2.2.2.2.2.1 > 8)) else false) then
(Option.map Sum.inr (some (3, ())))
else
bif (bif x.1.2.2.1 == 2 then (bif decide (x.1.2.2.2.2.2.2.2.2.2.1 < (-1099511627776)) then true else decide (x.1.2.2.2.2.2.2.2.2.2.1 > 1099511627776)) else false) then
(Option.map Sum.inr (some (3, ())))
else
bif (bif x.1.2.2.1 == 1 then (bif !seq x.1.2.2.2.2.2.2.1 (⟨#[]⟩ : ByteArray) then true else x.1.2.2.2.2.2.2.2.2.2.1 != 0) else false) then
(Option.map Sum.inr (some (15, ())))
else
bif (bif x.1.2.2.1 == 2 then (bif (bif !seq x.1.2.2.2.2.2.2.1 (⟨#[]⟩ : ByteArray) then true else x.1.2.2.2.2.2.2.2.1 != 0) then true else x.1.2.2.2.2.2.2.2.2.1 != 0) else false) then
(Option.map Sum.inr (some (15, ())))
else
bif (bif x.1.2.2.1 == 3 then (bif (bif (bif (bif !seq x.1.2.2.2.2.2.1 (⟨#[]⟩ : ByteArray) then true else x.1.2.2.2.2.2.2.2.1 != 0) then true else x.1.2.2.2.2.2.2.2.2.1 != 0) then true else x.1.2.2.2.2.2.2.2.2.2.1 != 0) then true else seq x.1.2.2.2.2.2.2.1 x.1.2.2.2.2.1) else false) then
(Option.map Sum.inr (some (15, ())))
else
some (Sum.inl ((), (), ())))
else
Option.bind (text_Key_C (x.1.2.2.2.2.1, ())) fun r3 =>
bif !r3.1 then
(bif !r3.1 then
(Option.map Sum.inr (some (6, ())))
else
bif decide (x.1.2.1 < 1) then
(bif decide (x.1.2.1 < 1) then
(Option.map Sum.inr (some (3, ())))
else
bif (bif x.1.2.2.1 == 1 then (bif (bif (bif decide (x.1.2.2.2.2.2.2.2.1 < 0) then true else decide (x.1.2.2.2.2.2.2.2.1 > 1099511627776)) then true else decide (x.1.2.2.2.2.2.2.2.2.1 < 1)) then true else decide (x.1.2.2.2.2.2.2.2.2.1 > 8)) else false) then
(Option.map Sum.inr (some (3, ())))
else
bif (bif x.1.2.2.1 == 2 then (bif decide (x.1.2.2.2.2.2.2.2.2.2.1 < (-1099511627776)) then true else decide (x.1.2.2.2.2.2.2.2.2.2.1 > 1099511627776)) else false) then
(Option.map Sum.inr (some (3, ())))
else
bif (bif x.1.2.2.1 == 1 then (bif !seq x.1.2.2.2.2.2.2.1 (⟨#[]⟩ : ByteArray) then true else x.1.2.2.2.2.2.2.2.2.2.1 != 0) else false) then
(Option.map Sum.inr (some (15, ())))
else
bif (bif x.1.2.2.1 == 2 then (bif (bif !seq x.1.2.2.2.2.2.2.1 (⟨#[]⟩ : ByteArray) then true else x.1.2.2.2.2.2.2.2.1 != 0) then true else x.1.2.2.2.2.2.2.2.2.1 != 0) else false) then
(Option.map Sum.inr (some (15, ())))
else
bif (bif x.1.2.2.1 == 3 then (bif (bif (bif (bif !seq x.1.2.2.2.2.2.1 (⟨#[]⟩ : ByteArray) then true else x.1.2.2.2.2.2.2.2.1 != 0) then true else x.1.2.2.2.2.2.2.2.2.1 != 0) then true else x.1.2.2.2.2.2.2.2.2.2.1 != 0) then true else seq x.1.2.2.2.2.2.2.1 x.1.2.2.2.2.1) else false) then
(Option.map Sum.inr (some (15, ())))
else
some (Sum.inl ((), (), ())))
else
bif decide (x.1.2.1 > 1073741824) then
(bif decide (x.1.2.1 > 1073741824) then
(Option.map Sum.inr (some (3, ())))
else
bif (bif x.1.2.2.1 == 1 then (bif (bif (bif decide (x.1.2.2.2.2.2.2.2.1 < 0) then true else decide (x.1.2.2.2.2.2.2.2.1 > 1099511627776)) then true else decide (x.1.2.2.2.2.2.2.2.2.1 < 1)) then true else decide (x.1.2.2.2.2.2.2.2.2.1 > 8)) else false) then
(Option.map Sum.inr (some (3, ())))
else
bif (bif x.1.2.2.1 == 2 then (bif decide (x.1.2.2.2.2.2.2.2.2.2.1 < (-1099511627776)) then true else decide (x.1.2.2.2.2.2.2.2.2.2.1 > 1099511627776)) else false) then
(Option.map Sum.inr (some (3, ())))
else
bif (bif x.1.2.2.1 == 1 then (bif !seq x.1.2.2.2.2.2.2.1 (⟨#[]⟩ : ByteArray) then true else x.1.2.2.2.2.2.2.2.2.2.1 != 0) else false) then
(Option.map Sum.inr (some (15, ())))
else
bif (bif x.1.2.2.1 == 2 then (bif (bif !seq x.1.2.2.2.2.2.2.1 (⟨#[]⟩ : ByteArray) then true else x.1.2.2.2.2.2.2.2.1 != 0) then true else x.1.2.2.2.2.2.2.2.2.1 != 0) else false) then
(Option.map Sum.inr (some (15, ())))
else
bif (bif x.1.2.2.1 == 3 then (bif (bif (bif (bif !seq x.1.2.2.2.2.2.1 (⟨#[]⟩ : ByteArray) then true else x.1.2.2.2.2.2.2.2.1 != 0) then true else x.1.2.2.2.2.2.2.2.2.1 != 0) then true else x.1.2.2.2.2.2.2.2.2.2.1 != 0) then true else seq x.1.2.2.2.2.2.2.1 x.1.2.2.2.2.1) else false) then
(Option.map Sum.inr (some (15, ())))
else
some (Sum.inl ((), (), ())))
else
bif decide (x.1.2.2.2.1 < 0) then
(bif decide (x.1.2.2.2.1 < 0) then
(Option.map Sum.inr (some (3, ())))
else
bif (bif x.1.2.2.1 == 1 then (bif (bif (bif decide (x.1.2.2.2.2.2.2.2.1 < 0) then true else decide (x.1.2.2.2.2.2.2.2.1 > 1099511627776)) then true else decide (x.1.2.2.2.2.2.2.2.2.1 < 1)) then true else decide (x.1.2.2.2.2.2.2.2.2.1 > 8)) else false) then
(Option.map Sum.inr (some (3, ())))
else
bif (bif x.1.2.2.1 == 2 then (bif decide (x.1.2.2.2.2.2.2.2.2.2.1 < (-1099511627776)) then true else decide (x.1.2.2.2.2.2.2.2.2.2.1 > 1099511627776)) else false) then
(Option.map Sum.inr (some (3, ())))
else
bif (bif x.1.2.2.1 == 1 then (bif !seq x.1.2.2.2.2.2.2.1 (⟨#[]⟩ : ByteArray) then true else x.1.2.2.2.2.2.2.2.2.2.1 != 0) else false) then
(Option.map Sum.inr (some (15, ())))
else
bif (bif x.1.2.2.1 == 2 then (bif (bif !seq x.1.2.2.2.2.2.2.1 (⟨#[]⟩ : ByteArray) then true else x.1.2.2.2.2.2.2.2.1 != 0) then true else x.1.2.2.2.2.2.2.2.2.1 != 0) else false) then
(Option.map Sum.inr (some (15, ())))
else
bif (bif x.1.2.2.1 == 3 then (bif (bif (bif (bif !seq x.1.2.2.2.2.2.1 (⟨#[]⟩ : ByteArray) then true else x.1.2.2.2.2.2.2.2.1 != 0) then true else x.1.2.2.2.2.2.2.2.2.1 != 0) then true else x.1.2.2.2.2.2.2.2.2.2.1 != 0) then true else seq x.1.2.2.2.2.2.2.1 x.1.2.2.2.2.1) else false) then
(Option.map Sum.inr (some (15, ())))
else
some (Sum.inl ((), (), ())))
else
bif decide (x.1.2.2.2.1 > 1099511627776) then
(Option.map Sum.inr (some (3, ())))
else
bif (bif x.1.2.2.1 == 1 then (bif (bif (bif decide (x.1.2.2.2.2.2.2.2.1 < 0) then true else decide (x.1.2.2.2.2.2.2.2.1 > 1099511627776)) then true else decide (x.1.2.2.2.2.2.2.2.2.1 < 1)) then true else decide (x.1.2.2.2.2.2.2.2.2.1 > 8)) else false) then
(Option.map Sum.inr (some (3, ())))
else
bif (bif x.1.2.2.1 == 2 then (bif decide (x.1.2.2.2.2.2.2.2.2.2.1 < (-1099511627776)) then true else decide (x.1.2.2.2.2.2.2.2.2.2.1 > 1099511627776)) else false) then
(Option.map Sum.inr (some (3, ())))
else
bif (bif x.1.2.2.1 == 1 then (bif !seq x.1.2.2.2.2.2.2.1 (⟨#[]⟩ : ByteArray) then true else x.1.2.2.2.2.2.2.2.2.2.1 != 0) else false) then
(Option.map Sum.inr (some (15, ())))
else
bif (bif x.1.2.2.1 == 2 then (bif (bif !seq x.1.2.2.2.2.2.2.1 (⟨#[]⟩ : ByteArray) then true else x.1.2.2.2.2.2.2.2.1 != 0) then true else x.1.2.2.2.2.2.2.2.2.1 != 0) else false) then
(Option.map Sum.inr (some (15, ())))
else
bif (bif x.1.2.2.1 == 3 then (bif (bif (bif (bif !seq x.1.2.2.2.2.2.1 (⟨#[]⟩ : ByteArray) then true else x.1.2.2.2.2.2.2.2.1 != 0) then true else x.1.2.2.2.2.2.2.2.2.1 != 0) then true else x.1.2.2.2.2.2.2.2.2.2.1 != 0) then true else seq x.1.2.2.2.2.2.2.1 x.1.2.2.2.2.1) else false) then
(Option.map Sum.inr (some (15, ())))
else
some (Sum.inl ((), (), ())))
else
Option.bind (bif !(x.1.2.2.1 == 3) then text_Key_C (x.1.2.2.2.2.2.1, ()) else some (false, ())) fun r4 =>
bif (bif !(x.1.2.2.1 == 3) then !r4.1 else false) then
(bif (bif !(x.1.2.2.1 == 3) then !r4.1 else false) then
(Option.map Sum.inr (some (6, ())))
else
bif decide (x.1.2.1 < 1) then
(bif decide (x.1.2.1 < 1) then
(Option.map Sum.inr (some (3, ())))
else
bif (bif x.1.2.2.1 == 1 then (bif (bif (bif decide (x.1.2.2.2.2.2.2.2.1 < 0) then true else decide (x.1.2.2.2.2.2.2.2.1 > 1099511627776)) then true else decide (x.1.2.2.2.2.2.2.2.2.1 < 1)) then true else decide (x.1.2.2.2.2.2.2.2.2.1 > 8)) else false) then
(Option.map Sum.inr (some (3, ())))
else
bif (bif x.1.2.2.1 == 2 then (bif decide (x.1.2.2.2.2.2.2.2.2.2.1 < (-1099511627776)) then true else decide (x.1.2.2.2.2.2.2.2.2.2.1 > 1099511627776)) else false) then
(Option.map Sum.inr (some (3, ())))
else
bif (bif x.1.2.2.1 == 1 then (bif !seq x.1.2.2.2.2.2.2.1 (⟨#[]⟩ : ByteArray) then true else x.1.2.2.2.2.2.2.2.2.2.1 != 0) else false) then
(Option.map Sum.inr (some (15, ())))
else
bif (bif x.1.2.2.1 == 2 then (bif (bif !seq x.1.2.2.2.2.2.2.1 (⟨#[]⟩ : ByteArray) then true else x.1.2.2.2.2.2.2.2.1 != 0) then true else x.1.2.2.2.2.2.2.2.2.1 != 0) else false) then
(Option.map Sum.inr (some (15, ())))
else
bif (bif x.1.2.2.1 == 3 then (bif (bif (bif (bif !seq x.1.2.2.2.2.2.1 (⟨#[]⟩ : ByteArray) then true else x.1.2.2.2.2.2.2.2.1 != 0) then true else x.1.2.2.2.2.2.2.2.2.1 != 0) then true else x.1.2.2.2.2.2.2.2.2.2.1 != 0) then true else seq x.1.2.2.2.2.2.2.1 x.1.2.2.2.2.1) else false) then
(Option.map Sum.inr (some (15, ())))
else
some (Sum.inl ((), (), ())))
else
bif decide (x.1.2.1 > 1073741824) then
(bif decide (x.1.2.1 > 1073741824) then
(Option.map Sum.inr (some (3, ())))
else
bif (bif x.1.2.2.1 == 1 then (bif (bif (bif decide (x.1.2.2.2.2.2.2.2.1 < 0) then true else decide (x.1.2.2.2.2.2.2.2.1 > 1099511627776)) then true else decide (x.1.2.2.2.2.2.2.2.2.1 < 1)) then true else decide (x.1.2.2.2.2.2.2.2.2.1 > 8)) else false) then
(Option.map Sum.inr (some (3, ())))
else
bif (bif x.1.2.2.1 == 2 then (bif decide (x.1.2.2.2.2.2.2.2.2.2.1 < (-1099511627776)) then true else decide (x.1.2.2.2.2.2.2.2.2.2.1 > 1099511627776)) else false) then
(Option.map Sum.inr (some (3, ())))
else
bif (bif x.1.2.2.1 == 1 then (bif !seq x.1.2.2.2.2.2.2.1 (⟨#[]⟩ : ByteArray) then true else x.1.2.2.2.2.2.2.2.2.2.1 != 0) else false) then
(Option.map Sum.inr (some (15, ())))
else
bif (bif x.1.2.2.1 == 2 then (bif (bif !seq x.1.2.2.2.2.2.2.1 (⟨#[]⟩ : ByteArray) then true else x.1.2.2.2.2.2.2.2.1 != 0) then true else x.1.2.2.2.2.2.2.2.2.1 != 0) else false) then
(Option.map Sum.inr (some (15, ())))
else
bif (bif x.1.2.2.1 == 3 then (bif (bif (bif (bif !seq x.1.2.2.2.2.2.1 (⟨#[]⟩ : ByteArray) then true else x.1.2.2.2.2.2.2.2.1 != 0) then true else x.1.2.2.2.2.2.2.2.2.1 != 0) then true else x.1.2.2.2.2.2.2.2.2.2.1 != 0) then true else seq x.1.2.2.2.2.2.2.1 x.1.2.2.2.2.1) else false) then
(Option.map Sum.inr (some (15, ())))
else
some (Sum.inl ((), (), ())))
else
bif decide (x.1.2.2.2.1 < 0) then
(bif decide (x.1.2.2.2.1 < 0) then
(Option.map Sum.inr (some (3, ())))
else
bif (bif x.1.2.2.1 == 1 then (bif (bif (bif decide (x.1.2.2.2.2.2.2.2.1 < 0) then true else decide (x.1.2.2.2.2.2.2.2.1 > 1099511627776)) then true else decide (x.1.2.2.2.2.2.2.2.2.1 < 1)) then true else decide (x.1.2.2.2.2.2.2.2.2.1 > 8)) else false) then
(Option.map Sum.inr (some (3, ())))
else
bif (bif x.1.2.2.1 == 2 then (bif decide (x.1.2.2.2.2.2.2.2.2.2.1 < (-1099511627776)) then true else decide (x.1.2.2.2.2.2.2.2.2.2.1 > 1099511627776)) else false) then
(Option.map Sum.inr (some (3, ())))
else
bif (bif x.1.2.2.1 == 1 then (bif !seq x.1.2.2.2.2.2.2.1 (⟨#[]⟩ : ByteArray) then true else x.1.2.2.2.2.2.2.2.2.2.1 != 0) else false) then
(Option.map Sum.inr (some (15, ())))
else
bif (bif x.1.2.2.1 == 2 then (bif (bif !seq x.1.2.2.2.2.2.2.1 (⟨#[]⟩ : ByteArray) then true else x.1.2.2.2.2.2.2.2.1 != 0) then true else x.1.2.2.2.2.2.2.2.2.1 != 0) else false) then
(Option.map Sum.inr (some (15, ())))
else
bif (bif x.1.2.2.1 == 3 then (bif (bif (bif (bif !seq x.1.2.2.2.2.2.1 (⟨#[]⟩ : ByteArray) then true else x.1.2.2.2.2.2.2.2.1 != 0) then true else x.1.2.2.2.2.2.2.2.2.1 != 0) then true else x.1.2.2.2.2.2.2.2.2.2.1 != 0) then true else seq x.1.2.2.2.2.2.2.1 x.1.2.2.2.2.1) else false) then
(Option.map Sum.inr (some (15, ())))
else
some (Sum.inl ((), (), ())))
else
bif decide (x.1.2.2.2.1 > 1099511627776) then
(Option.map Sum.inr (some (3, ())))
else
bif (bif x.1.2.2.1 == 1 then (bif (bif (bif decide (x.1.2.2.2.2.2.2.2.1 < 0) then true else decide (x.1.2.2.2.2.2.2.2.1 > 1099511627776)) then true else decide (x.1.2.2.2.2.2.2.2.2.1 < 1)) then true else decide (x.1.2.2.2.2.2.2.2.2.1 > 8)) else false) then
(Option.map Sum.inr (some (3, ())))
else
bif (bif x.1.2.2.1 == 2 then (bif decide (x.1.2.2.2.2.2.2.2.2.2.1 < (-1099511627776)) then true else decide (x.1.2.2.2.2.2.2.2.2.2.1 > 1099511627776)) else false) then
(Option.map Sum.inr (some (3, ())))
else
bif (bif x.1.2.2.1 == 1 then (bif !seq x.1.2.2.2.2.2.2.1 (⟨#[]⟩ : ByteArray) then true else x.1.2.2.2.2.2.2.2.2.2.1 != 0) else false) then
(Option.map Sum.inr (some (15, ())))
else
bif (bif x.1.2.2.1 == 2 then (bif (bif !seq x.1.2.2.2.2.2.2.1 (⟨#[]⟩ : ByteArray) then true else x.1.2.2.2.2.2.2.2.1 != 0) then true else x.1.2.2.2.2.2.2.2.2.1 != 0) else false) then
(Option.map Sum.inr (some (15, ())))
else
bif (bif x.1.2.2.1 == 3 then (bif (bif (bif (bif !seq x.1.2.2.2.2.2.1 (⟨#[]⟩ : ByteArray) then true else x.1.2.2.2.2.2.2.2.1 != 0) then true else x.1.2.2.2.2.2.2.2.2.1 != 0) then true else x.1.2.2.2.2.2.2.2.2.2.1 != 0) then true else seq x.1.2.2.2.2.2.2.1 x.1.2.2.2.2.1) else false) then
(Option.map Sum.inr (some (15, ())))
else
some (Sum.inl ((), (), ())))
else
Option.bind (bif x.1.2.2.1 == 3 then text_Key_C (x.1.2.2.2.2.2.2.1, ()) else some (false, ())) fun r5 =>
bif (bif x.1.2.2.1 == 3 then !r5.1 else false) then
(Option.map Sum.inr (some (6, ())))
else
bif decide (x.1.2.1 < 1) then
(bif decide (x.1.2.1 < 1) then
(Option.map Sum.inr (some (3, ())))
else
bif (bif x.1.2.2.1 == 1 then (bif (bif (bif decide (x.1.2.2.2.2.2.2.2.1 < 0) then true else decide (x.1.2.2.2.2.2.2.2.1 > 1099511627776)) then true else decide (x.1.2.2.2.2.2.2.2.2.1 < 1)) then true else decide (x.1.2.2.2.2.2.2.2.2.1 > 8)) else false) then
(Option.map Sum.inr (some (3, ())))
else
bif (bif x.1.2.2.1 == 2 then (bif decide (x.1.2.2.2.2.2.2.2.2.2.1 < (-1099511627776)) then true else decide (x.1.2.2.2.2.2.2.2.2.2.1 > 1099511627776)) else false) then
(Option.map Sum.inr (some (3, ())))
else
bif (bif x.1.2.2.1 == 1 then (bif !seq x.1.2.2.2.2.2.2.1 (⟨#[]⟩ : ByteArray) then true else x.1.2.2.2.2.2.2.2.2.2.1 != 0) else false) then
(Option.map Sum.inr (some (15, ())))
else
bif (bif x.1.2.2.1 == 2 then (bif (bif !seq x.1.2.2.2.2.2.2.1 (⟨#[]⟩ : ByteArray) then true else x.1.2.2.2.2.2.2.2.1 != 0) then true else x.1.2.2.2.2.2.2.2.2.1 != 0) else false) then
(Option.map Sum.inr (some (15, ())))
else
bif (bif x.1.2.2.1 == 3 then (bif (bif (bif (bif !seq x.1.2.2.2.2.2.1 (⟨#[]⟩ : ByteArray) then true else x.1.2.2.2.2.2.2.2.1 != 0) then true else x.1.2.2.2.2.2.2.2.2.1 != 0) then true else x.1.2.2.2.2.2.2.2.2.2.1 != 0) then true else seq x.1.2.2.2.2.2.2.1 x.1.2.2.2.2.1) else false) then
(Option.map Sum.inr (some (15, ())))
else
some (Sum.inl ((), (), ())))
else
bif decide (x.1.2.1 > 1073741824) then
(bif decide (x.1.2.1 > 1073741824) then
(Option.map Sum.inr (some (3, ())))
else
bif (bif x.1.2.2.1 == 1 then (bif (bif (bif decide (x.1.2.2.2.2.2.2.2.1 < 0) then true else decide (x.1.2.2.2.2.2.2.2.1 > 1099511627776)) then true else decide (x.1.2.2.2.2.2.2.2.2.1 < 1)) then true else decide (x.1.2.2.2.2.2.2.2.2.1 > 8)) else false) then
(Option.map Sum.inr (some (3, ())))
else
bif (bif x.1.2.2.1 == 2 then (bif decide (x.1.2.2.2.2.2.2.2.2.2.1 < (-1099511627776)) then true else decide (x.1.2.2.2.2.2.2.2.2.2.1 > 1099511627776)) else false) then
(Option.map Sum.inr (some (3, ())))
else
bif (bif x.1.2.2.1 == 1 then (bif !seq x.1.2.2.2.2.2.2.1 (⟨#[]⟩ : ByteArray) then true else x.1.2.2.2.2.2.2.2.2.2.1 != 0) else false) then
(Option.map Sum.inr (some (15, ())))
else
bif (bif x.1.2.2.1 == 2 then (bif (bif !seq x.1.2.2.2.2.2.2.1 (⟨#[]⟩ : ByteArray) then true else x.1.2.2.2.2.2.2.2.1 != 0) then true else x.1.2.2.2.2.2.2.2.2.1 != 0) else false) then
(Option.map Sum.inr (some (15, ())))
else
bif (bif x.1.2.2.1 == 3 then (bif (bif (bif (bif !seq x.1.2.2.2.2.2.1 (⟨#[]⟩ : ByteArray) then true else x.1.2.2.2.2.2.2.2.1 != 0) then true else x.1.2.2.2.2.2.2.2.2.1 != 0) then true else x.1.2.2.2.2.2.2.2.2.2.1 != 0) then true else seq x.1.2.2.2.2.2.2.1 x.1.2.2.2.2.1) else false) then
(Option.map Sum.inr (some (15, ())))
else
some (Sum.inl ((), (), ())))
else
bif decide (x.1.2.2.2.1 < 0) then
(bif decide (x.1.2.2.2.1 < 0) then
(Option.map Sum.inr (some (3, ())))
else
bif (bif x.1.2.2.1 == 1 then (bif (bif (bif decide (x.1.2.2.2.2.2.2.2.1 < 0) then true else decide (x.1.2.2.2.2.2.2.2.1 > 1099511627776)) then true else decide (x.1.2.2.2.2.2.2.2.2.1 < 1)) then true else decide (x.1.2.2.2.2.2.2.2.2.1 > 8)) else false) then
(Option.map Sum.inr (some (3, ())))
else
bif (bif x.1.2.2.1 == 2 then (bif decide (x.1.2.2.2.2.2.2.2.2.2.1 < (-1099511627776)) then true else decide (x.1.2.2.2.2.2.2.2.2.2.1 > 1099511627776)) else false) then
(Option.map Sum.inr (some (3, ())))
else
bif (bif x.1.2.2.1 == 1 then (bif !seq x.1.2.2.2.2.2.2.1 (⟨#[]⟩ : ByteArray) then true else x.1.2.2.2.2.2.2.2.2.2.1 != 0) else false) then
(Option.map Sum.inr (some (15, ())))
else
bif (bif x.1.2.2.1 == 2 then (bif (bif !seq x.1.2.2.2.2.2.2.1 (⟨#[]⟩ : ByteArray) then true else x.1.2.2.2.2.2.2.2.1 != 0) then true else x.1.2.2.2.2.2.2.2.2.1 != 0) else false) then
(Option.map Sum.inr (some (15, ())))
else
bif (bif x.1.2.2.1 == 3 then (bif (bif (bif (bif !seq x.1.2.2.2.2.2.1 (⟨#[]⟩ : ByteArray) then true else x.1.2.2.2.2.2.2.2.1 != 0) then true else x.1.2.2.2.2.2.2.2.2.1 != 0) then true else x.1.2.2.2.2.2.2.2.2.2.1 != 0) then true else seq x.1.2.2.2.2.2.2.1 x.1.2.2.2.2.1) else false) then
(Option.map Sum.inr (some (15, ())))
else
some (Sum.inl ((), (), ())))
else
bif decide (x.1.2.2.2.1 > 1099511627776) then
(Option.map Sum.inr (some (3, ())))
else
bif (bif x.1.2.2.1 == 1 then (bif (bif (bif decide (x.1.2.2.2.2.2.2.2.1 < 0) then true else decide (x.1.2.2.2.2.2.2.2.1 > 1099511627776)) then true else decide (x.1.2.2.2.2.2.2.2.2.1 < 1)) then true else decide (x.1.2.2.2.2.2.2.2.2.1 > 8)) else false) then
(Option.map Sum.inr (some (3, ())))
else
bif (bif x.1.2.2.1 == 2 then (bif decide (x.1.2.2.2.2.2.2.2.2.2.1 < (-1099511627776)) then true else decide (x.1.2.2.2.2.2.2.2.2.2.1 > 1099511627776)) else false) then
(Option.map Sum.inr (some (3, ())))
else
bif (bif x.1.2.2.1 == 1 then (bif !seq x.1.2.2.2.2.2.2.1 (⟨#[]⟩ : ByteArray) then true else x.1.2.2.2.2.2.2.2.2.2.1 != 0) else false) then
(Option.map Sum.inr (some (15, ())))
else
bif (bif x.1.2.2.1 == 2 then (bif (bif !seq x.1.2.2.2.2.2.2.1 (⟨#[]⟩ : ByteArray) then true else x.1.2.2.2.2.2.2.2.1 != 0) then true else x.1.2.2.2.2.2.2.2.2.1 != 0) else false) then
(Option.map Sum.inr (some (15, ())))
else
bif (bif x.1.2.2.1 == 3 then (bif (bif (bif (bif !seq x.1.2.2.2.2.2.1 (⟨#[]⟩ : ByteArray) then true else x.1.2.2.2.2.2.2.2.1 != 0) then true else x.1.2.2.2.2.2.2.2.2.1 != 0) then true else x.1.2.2.2.2.2.2.2.2.2.1 != 0) then true else seq x.1.2.2.2.2.2.2.1 x.1.2.2.2.2.1) else false) then
(Option.map Sum.inr (some (15, ())))
else
some (Sum.inl ((), (), ()))) fun s1 => match s1 with
| .inl s1 => (some (0, ()))
| .inr s6 => some s6
def event_Check_C : ((ByteArray × (Int × (Int × (Int × (ByteArray × (ByteArray × (ByteArray × (Int × (Int × (Int × Unit)))))))))) × Unit) → Option (Int × Unit) := fun x => event_Check_F 0 x
/-- flagstone/event.CheckBatch -/
def event_CheckBatch_F (fuel : Nat) : ((ByteArray × (Int × (List (ByteArray × (Int × (Int × (Int × (ByteArray × (ByteArray × (ByteArray × (Int × (Int × (Int × Unit)))))))))) × Unit))) × Unit) → Option (Int × Unit) := fun x =>
Option.bind (α := ((Unit × Unit) × (((ByteArray × (Int × (List (ByteArray × (Int × (Int × (Int × (ByteArray × (ByteArray × (ByteArray × (Int × (Int × (Int × Unit)))))))))) × Unit))) × Unit) × Unit)) ⊕ (Int × Unit)) (Option.bind (text_Key_C (x.1.1, ())) fun r2 =>
bif !r2.1 then
(Option.map Sum.inr (some (6, ())))
else
bif decide (x.1.2.1 < 1) then
(bif decide (x.1.2.1 < 1) then
(Option.map Sum.inr (some (3, ())))
else
bif decide ((x.1.2.2.1.length : Int) > 32) then
(Option.map Sum.inr (some (5, ())))
else
some (Sum.inl (((), ()), (x.1, ()), ())))
else
bif decide (x.1.2.1 > 1073741825) then
(Option.map Sum.inr (some (3, ())))
else
bif decide ((x.1.2.2.1.length : Int) > 32) then
(Option.map Sum.inr (some (5, ())))
else
some (Sum.inl (((), ()), (x.1, ()), ()))) fun s1 => match s1 with
| .inl s1 => (Option.bind (α := (Unit × (Unit × Unit)) ⊕ (Int × Unit)) (iter fuel (fun (self6 : ((Unit × (List (ByteArray × (Int × (Int × (Int × (ByteArray × (ByteArray × (ByteArray × (Int × (Int × (Int × Unit)))))))))) × (Int × (Int × Unit)))) × (((ByteArray × (Int × (List (ByteArray × (Int × (Int × (Int × (ByteArray × (ByteArray × (ByteArray × (Int × (Int × (Int × Unit)))))))))) × Unit))) × Unit) × Unit)) → Option _) (x5 : ((Unit × (List (ByteArray × (Int × (Int × (Int × (ByteArray × (ByteArray × (ByteArray × (Int × (Int × (Int × Unit)))))))))) × (Int × (Int × Unit)))) × (((ByteArray × (Int × (List (ByteArray × (Int × (Int × (Int × (ByteArray × (ByteArray × (ByteArray × (Int × (Int × (Int × Unit)))))))))) × Unit))) × Unit) × Unit))) =>
bif decide (x5.1.2.2.2.1 < x5.1.2.2.1) then
(bif inb x5.1.2.2.2.1 x5.1.2.1.length then
let v7 : (ByteArray × (Int × (Int × (Int × (ByteArray × (ByteArray × (ByteArray × (Int × (Int × (Int × Unit)))))))))) := x5.1.2.1.getD x5.1.2.2.2.1.toNat ((⟨#[]⟩ : ByteArray), 0, 0, 0, (⟨#[]⟩ : ByteArray), (⟨#[]⟩ : ByteArray), (⟨#[]⟩ : ByteArray), 0, 0, 0, ())
Option.bind (event_Check_C (v7, ())) fun r8 =>
bif r8.1 != 0 then
(Option.map Sum.inr (some (r8.1, ())))
else
bif !seq v7.1 x5.2.1.1.1 then
(Option.map Sum.inr (some (15, ())))
else
bif !((decide (x5.1.2.2.2.1 > 0)) && (!(decide (v7.2.1 < x5.2.1.1.2.1)))) || (inb (IntKind.wrap .i64 (x5.1.2.2.2.1 - 1)) x5.2.1.1.2.2.1.length) then
let v9 : (ByteArray × (Int × (Int × (Int × (ByteArray × (ByteArray × (ByteArray × (Int × (Int × (Int × Unit)))))))))) := x5.2.1.1.2.2.1.getD (IntKind.wrap .i64 (x5.1.2.2.2.1 - 1)).toNat ((⟨#[]⟩ : ByteArray), 0, 0, 0, (⟨#[]⟩ : ByteArray), (⟨#[]⟩ : ByteArray), (⟨#[]⟩ : ByteArray), 0, 0, 0, ())
bif (bif decide (v7.2.1 < x5.2.1.1.2.1) then true else (bif decide (x5.1.2.2.2.1 > 0) then decide (v7.2.1 ≤ v9.2.1) else false)) then
(Option.map Sum.inr (some (9, ())))
else
self6 (((), x5.1.2.1, x5.1.2.2.1, IntKind.wrap .i64 (x5.1.2.2.2.1 + 1), ()), (x5.2.1.1, ()), ())
else none
else none)
else
some (Sum.inl ((), (), ()))) (((), s1.2.1.1.2.2.1, (s1.2.1.1.2.2.1.length : Int), 0, ()), (s1.2.1.1, ()), ())) fun s4 => match s4 with
| .inl s4 => (some (0, ()))
| .inr s10 => some s10)
| .inr s3 => some s3
def event_CheckBatch_C : ((ByteArray × (Int × (List (ByteArray × (Int × (Int × (Int × (ByteArray × (ByteArray × (ByteArray × (Int × (Int × (Int × Unit)))))))))) × Unit))) × Unit) → Option (Int × Unit) := fun x => event_CheckBatch_F (100) x
/-- flagstone/wire.groups -/
def wire_groups_F (fuel : Nat) : (Int × Unit) → Option (List Int × Unit) := fun x =>
let v1 : Int := ibits .u64 2 (ishl .u64 (IntKind.wrap .u64 (x.1)) 1) (IntKind.wrap .u64 (ishr .i64 x.1 63))
Option.bind (α := ((Int × (Unit × Unit)) × (Unit × (List Int × Unit)))) (iter fuel (fun (self4 : ((Int × (Unit × Unit)) × (Unit × (List Int × Unit))) → Option _) (x3 : ((Int × (Unit × Unit)) × (Unit × (List Int × Unit)))) =>
bif decide (x3.1.1 ≥ 128) then
(bif roomy x3.2.2.1.length ([ibits .u8 1 (IntKind.wrap .u8 (x3.1.1)) 128].length) then
self4 ((ishr .u64 x3.1.1 7, (), ()), (), x3.2.2.1 ++ [ibits .u8 1 (IntKind.wrap .u8 (x3.1.1)) 128], ())
else none)
else
some ((x3.1.1, (), ()), (), x3.2.2.1, ())) ((v1, (), ()), (), ([] : List Int), ())) fun s2 =>
bif roomy s2.2.2.1.length ([IntKind.wrap .u8 (s2.1.1)].length) then
some (s2.2.2.1 ++ [IntKind.wrap .u8 (s2.1.1)], ())
else none
def wire_groups_C : (Int × Unit) → Option (List Int × Unit) := fun x => wire_groups_F (100) x
/-- flagstone/wire.own -/
def wire_own_F (fuel : Nat) : (List Int × (List Int × Unit)) → Option (List Int × Unit) := fun x =>
bif decide (0 ≤ 0) && (decide (0 ≤ IntKind.wrap .i64 ((x.1.length : Int) + (x.2.1.length : Int))) && decide (IntKind.wrap .i64 ((x.1.length : Int) + (x.2.1.length : Int)) < 1073741824)) then
bif roomy 0 x.1.length then
bif roomy ((([] : List Int) ++ x.1).length) x.2.1.length then
some ((([] : List Int) ++ x.1) ++ x.2.1, ())
else none
else none
else none
def wire_own_C : (List Int × (List Int × Unit)) → Option (List Int × Unit) := fun x => wire_own_F 0 x
/-- flagstone/wire.PutText -/
def wire_PutText_F (fuel : Nat) : (List Int × (ByteArray × Unit)) → Option (List Int × Unit) := fun x =>
Option.bind (wire_groups_C ((ByteArray.size x.2.1 : Int), ())) fun r1 =>
bif roomy r1.1.length ((bytesOf x.2.1).length) then
Option.bind (wire_own_C (x.1, r1.1 ++ (bytesOf x.2.1), ())) fun r2 =>
some (r2.1, ())
else none
def wire_PutText_C : (List Int × (ByteArray × Unit)) → Option (List Int × Unit) := fun x => wire_PutText_F 0 x
/-- flagstone/wire.PutNumber -/
def wire_PutNumber_F (fuel : Nat) : (List Int × (Int × Unit)) → Option (List Int × Unit) := fun x =>
Option.bind (wire_groups_C (x.2.1, ())) fun r1 =>
Option.bind (wire_own_C (x.1, r1.1, ())) fun r2 =>
some (r2.1, ())
def wire_PutNumber_C : (List Int × (Int × Unit)) → Option (List Int × Unit) := fun x => wire_PutNumber_F 0 x
/-- flagstone/digest.Frame -/
def digest_Frame_F (fuel : Nat) : (List (List Int) × Unit) → Option (List Int × Unit) := fun x =>
Option.bind (α := ((Unit × Unit) × (Unit × (List Int × Unit)))) (iter fuel (fun (self3 : ((Unit × (List (List Int) × (Int × (Int × Unit)))) × (Unit × (List Int × Unit))) → Option _) (x2 : ((Unit × (List (List Int) × (Int × (Int × Unit)))) × (Unit × (List Int × Unit)))) =>
bif decide (x2.1.2.2.2.1 < x2.1.2.2.1) then
(bif inb x2.1.2.2.2.1 x2.1.2.1.length then
Option.bind (α := ((Unit × (List Int × (List (List Int) × (Int × (Int × Unit))))) × (Unit × (List Int × Unit)))) (iter fuel (fun (self6 : ((Unit × (List Int × (Int × (List (List Int) × (Int × (Int × Unit)))))) × (Unit × (List Int × Unit))) → Option _) (x5 : ((Unit × (List Int × (Int × (List (List Int) × (Int × (Int × Unit)))))) × (Unit × (List Int × Unit)))) =>
bif decide (x5.1.2.2.1 ≥ 0) then
(bif decide (0 ≤ IntKind.wrap .i64 (8 * x5.1.2.2.1)) then
let v7 : Int := ishr .u64 (IntKind.wrap .u64 ((x5.1.2.1.length : Int))) (IntKind.wrap .i64 (8 * x5.1.2.2.1))
bif roomy x5.2.2.1.length ([IntKind.wrap .u8 (v7)].length) then
self6 (((), x5.1.2.1, IntKind.wrap .i64 (x5.1.2.2.1 - 1), x5.1.2.2.2.1, x5.1.2.2.2.2.1, x5.1.2.2.2.2.2.1, ()), (), x5.2.2.1 ++ [IntKind.wrap .u8 (v7)], ())
else none
else none)
else
some (((), x5.1.2.1, x5.1.2.2.2.1, x5.1.2.2.2.2.1, x5.1.2.2.2.2.2.1, ()), (), x5.2.2.1, ())) (((), x2.1.2.1.getD x2.1.2.2.2.1.toNat ([] : List Int), 7, x2.1.2.1, x2.1.2.2.1, x2.1.2.2.2.1, ()), (), x2.2.2.1, ())) fun s4 =>
bif roomy s4.2.2.1.length s4.1.2.1.length then
self3 (((), s4.1.2.2.1, s4.1.2.2.2.1, IntKind.wrap .i64 (s4.1.2.2.2.2.1 + 1), ()), (), s4.2.2.1 ++ s4.1.2.1, ())
else none
else none)
else
some (((), ()), (), x2.2.2.1, ())) (((), x.1, (x.1.length : Int), 0, ()), (), ([] : List Int), ())) fun s1 =>
some (s1.2.2.1, ())
def digest_Frame_C : (List (List Int) × Unit) → Option (List Int × Unit) := fun x => digest_Frame_F (x.1.length + 100) x
/-- math/bits.RotateLeft64 -/
def math_bits_RotateLeft64_F (fuel : Nat) : (Int × (Int × Unit)) → Option (Int × Unit) := fun x =>
bif decide (0 ≤ ibits .u64 0 (IntKind.wrap .u64 (x.2.1)) 63) then
bif decide (0 ≤ IntKind.wrap .u64 (64 - (ibits .u64 0 (IntKind.wrap .u64 (x.2.1)) 63))) then
let v1 : Int := ishr .u64 x.1 (IntKind.wrap .u64 (64 - (ibits .u64 0 (IntKind.wrap .u64 (x.2.1)) 63)))
let v2 : Int := ibits .u64 1 (ishl .u64 x.1 (ibits .u64 0 (IntKind.wrap .u64 (x.2.1)) 63)) v1
some (v2, ())
else none
else none
def math_bits_RotateLeft64_C : (Int × (Int × Unit)) → Option (Int × Unit) := fun x => math_bits_RotateLeft64_F 0 x
/-- (*flagstone/digest.state).rounds -/
def digest_state_rounds_F (fuel : Nat) : (List Int × (Int × Unit)) → Option (Unit × (List Int × Unit)) := fun x =>
Option.bind (α := (Unit × ((List Int × Unit) × Unit))) (iter fuel (fun (self3 : ((Unit × (Int × (Int × Unit))) × ((List Int × Unit) × Unit)) → Option _) (x2 : ((Unit × (Int × (Int × Unit))) × ((List Int × Unit) × Unit))) =>
bif decide (x2.1.2.2.1 < x2.1.2.1) then
(Option.bind (math_bits_RotateLeft64_C ((x2.2.1.1.set 0 (IntKind.wrap .u64 ((x2.2.1.1.getD 0 0) + (x2.2.1.1.getD 1 0)))).getD 1 0, 13, ())) fun r4 =>
let v5 : Int := ibits .u64 2 r4.1 ((x2.2.1.1.set 0 (IntKind.wrap .u64 ((x2.2.1.1.getD 0 0) + (x2.2.1.1.getD 1 0)))).getD 0 0)
Option.bind (math_bits_RotateLeft64_C (((x2.2.1.1.set 0 (IntKind.wrap .u64 ((x2.2.1.1.getD 0 0) + (x2.2.1.1.getD 1 0)))).set 1 v5).getD 0 0, 32, ())) fun r6 =>
let v7 : Int := IntKind.wrap .u64 (((((x2.2.1.1.set 0 (IntKind.wrap .u64 ((x2.2.1.1.getD 0 0) + (x2.2.1.1.getD 1 0)))).set 1 v5).set 0 r6.1).getD 2 0) + ((((x2.2.1.1.set 0 (IntKind.wrap .u64 ((x2.2.1.1.getD 0 0) + (x2.2.1.1.getD 1 0)))).set 1 v5).set 0 r6.1).getD 3 0))
Option.bind (math_bits_RotateLeft64_C (((((x2.2.1.1.set 0 (IntKind.wrap .u64 ((x2.2.1.1.getD 0 0) + (x2.2.1.1.getD 1 0)))).set 1 v5).set 0 r6.1).set 2 v7).getD 3 0, 16, ())) fun r8 =>
let v9 : Int := ibits .u64 2 r8.1 (((((x2.2.1.1.set 0 (IntKind.wrap .u64 ((x2.2.1.1.getD 0 0) + (x2.2.1.1.getD 1 0)))).set 1 v5).set 0 r6.1).set 2 v7).getD 2 0)
let v10 : Int := IntKind.wrap .u64 (((((((x2.2.1.1.set 0 (IntKind.wrap .u64 ((x2.2.1.1.getD 0 0) + (x2.2.1.1.getD 1 0)))).set 1 v5).set 0 r6.1).set 2 v7).set 3 v9).getD 0 0) + ((((((x2.2.1.1.set 0 (IntKind.wrap .u64 ((x2.2.1.1.getD 0 0) + (x2.2.1.1.getD 1 0)))).set 1 v5).set 0 r6.1).set 2 v7).set 3 v9).getD 3 0))
Option.bind (math_bits_RotateLeft64_C (((((((x2.2.1.1.set 0 (IntKind.wrap .u64 ((x2.2.1.1.getD 0 0) + (x2.2.1.1.getD 1 0)))).set 1 v5).set 0 r6.1).set 2 v7).set 3 v9).set 0 v10).getD 3 0, 21, ())) fun r11 =>
let v12 : Int := ibits .u64 2 r11.1 (((((((x2.2.1.1.set 0 (IntKind.wrap .u64 ((x2.2.1.1.getD 0 0) + (x2.2.1.1.getD 1 0)))).set 1 v5).set 0 r6.1).set 2 v7).set 3 v9).set 0 v10).getD 0 0)
let v13 : Int := IntKind.wrap .u64 (((((((((x2.2.1.1.set 0 (IntKind.wrap .u64 ((x2.2.1.1.getD 0 0) + (x2.2.1.1.getD 1 0)))).set 1 v5).set 0 r6.1).set 2 v7).set 3 v9).set 0 v10).set 3 v12).getD 2 0) + ((((((((x2.2.1.1.set 0 (IntKind.wrap .u64 ((x2.2.1.1.getD 0 0) + (x2.2.1.1.getD 1 0)))).set 1 v5).set 0 r6.1).set 2 v7).set 3 v9).set 0 v10).set 3 v12).getD 1 0))
Option.bind (math_bits_RotateLeft64_C (((((((((x2.2.1.1.set 0 (IntKind.wrap .u64 ((x2.2.1.1.getD 0 0) + (x2.2.1.1.getD 1 0)))).set 1 v5).set 0 r6.1).set 2 v7).set 3 v9).set 0 v10).set 3 v12).set 2 v13).getD 1 0, 17, ())) fun r14 =>
let v15 : Int := ibits .u64 2 r14.1 (((((((((x2.2.1.1.set 0 (IntKind.wrap .u64 ((x2.2.1.1.getD 0 0) + (x2.2.1.1.getD 1 0)))).set 1 v5).set 0 r6.1).set 2 v7).set 3 v9).set 0 v10).set 3 v12).set 2 v13).getD 2 0)
Option.bind (math_bits_RotateLeft64_C ((((((((((x2.2.1.1.set 0 (IntKind.wrap .u64 ((x2.2.1.1.getD 0 0) + (x2.2.1.1.getD 1 0)))).set 1 v5).set 0 r6.1).set 2 v7).set 3 v9).set 0 v10).set 3 v12).set 2 v13).set 1 v15).getD 2 0, 32, ())) fun r16 =>
self3 (((), x2.1.2.1, IntKind.wrap .i64 (x2.1.2.2.1 + 1), ()), ((((((((((x2.2.1.1.set 0 (IntKind.wrap .u64 ((x2.2.1.1.getD 0 0) + (x2.2.1.1.getD 1 0)))).set 1 v5).set 0 r6.1).set 2 v7).set 3 v9).set 0 v10).set 3 v12).set 2 v13).set 1 v15).set 2 r16.1, ()), ()))
else
some ((), (x2.2.1.1, ()), ())) (((), x.2.1, 0, ()), (x.1, ()), ())) fun s1 =>
some ((), s1.2.1.1, ())
def digest_state_rounds_C : (List Int × (Int × Unit)) → Option (Unit × (List Int × Unit)) := fun x => digest_state_rounds_F (100) x
/-- (*flagstone/digest.state).word -/
def digest_state_word_F (fuel : Nat) : (List Int × (Int × Unit)) → Option (Unit × (List Int × Unit)) := fun x =>
Option.bind (digest_state_rounds_C (x.1.set 3 (ibits .u64 2 (x.1.getD 3 0) x.2.1), 2, ())) fun r1 =>
some ((), r1.2.1.set 0 (ibits .u64 2 (r1.2.1.getD 0 0) x.2.1), ())
def digest_state_word_C : (List Int × (Int × Unit)) → Option (Unit × (List Int × Unit)) := fun x => digest_state_word_F 0 x
/-- flagstone/digest.Sum -/
def digest_Sum_F (fuel : Nat) : (Int × (Int × (List Int × Unit))) → Option (Int × Unit) := fun x =>
Option.bind (α := ((List Int × (Unit × (Int × Unit))) × ((List Int × Unit) × Unit))) (iter fuel (fun (self3 : ((List Int × (Unit × (Int × (Int × Unit)))) × ((List Int × Unit) × Unit)) → Option _) (x2 : ((List Int × (Unit × (Int × (Int × Unit)))) × ((List Int × Unit) × Unit))) =>
let v4 : Bool := decide ((IntKind.wrap .i64 (x2.1.2.2.2.1 + 8)) ≤ (x2.1.1.length : Int))
bif v4 then
(Option.bind (α := ((List Int × (Unit × (Int × (Int × (Int × Unit))))) × ((List Int × Unit) × Unit))) (iter fuel (fun (self7 : ((List Int × (Unit × (Int × (Int × (Int × (Int × Unit)))))) × ((List Int × Unit) × Unit)) → Option _) (x6 : ((List Int × (Unit × (Int × (Int × (Int × (Int × Unit)))))) × ((List Int × Unit) × Unit))) =>
bif decide (x6.1.2.2.2.2.2.1 < 8) then
(bif inb (IntKind.wrap .i64 (x6.1.2.2.2.1 + x6.1.2.2.2.2.2.1)) x6.1.1.length then
let v8 : Int := x6.1.1.getD (IntKind.wrap .i64 (x6.1.2.2.2.1 + x6.1.2.2.2.2.2.1)).toNat 0
bif decide (0 ≤ IntKind.wrap .i64 (8 * x6.1.2.2.2.2.2.1)) then
let v9 : Int := ishl .u64 (IntKind.wrap .u64 (v8)) (IntKind.wrap .i64 (8 * x6.1.2.2.2.2.2.1))
self7 ((x6.1.1, (), x6.1.2.2.1, x6.1.2.2.2.1, ibits .u64 1 x6.1.2.2.2.2.1 v9, IntKind.wrap .i64 (x6.1.2.2.2.2.2.1 + 1), ()), (x6.2.1.1, ()), ())
else none
else none)
else
some ((x6.1.1, (), x6.1.2.2.1, x6.1.2.2.2.1, x6.1.2.2.2.2.1, ()), (x6.2.1.1, ()), ())) ((x2.1.1, (), x2.1.2.2.1, x2.1.2.2.2.1, 0, 0, ()), (x2.2.1.1, ()), ())) fun s5 =>
Option.bind (digest_state_word_C (s5.2.1.1, s5.1.2.2.2.2.1, ())) fun r10 =>
self3 ((s5.1.1, (), s5.1.2.2.1, IntKind.wrap .i64 (s5.1.2.2.2.1 + 8), ()), (r10.2.1, ()), ()))
else
some ((x2.1.1, (), x2.1.2.2.1, ()), (x2.2.1.1, ()), ())) ((x.2.2.1, (), ishl .u64 (IntKind.wrap .u64 ((x.2.2.1.length : Int))) 56, 0, ()), (((((List.replicate 4 0).set 0 (ibits .u64 2 x.1 8317987319222330741)).set 1 (ibits .u64 2 x.2.1 7237128888997146477)).set 2 (ibits .u64 2 x.1 7816392313619706465)).set 3 (ibits .u64 2 x.2.1 8387220255154660723), ()), ())) fun s1 =>
Option.bind (α := ((Unit × (Int × Unit)) × ((List Int × Unit) × Unit))) (iter fuel (fun (self13 : ((List Int × (Unit × (Int × (Int × (Int × Unit))))) × ((List Int × Unit) × Unit)) → Option _) (x12 : ((List Int × (Unit × (Int × (Int × (Int × Unit))))) × ((List Int × Unit) × Unit))) =>
bif decide (x12.1.2.2.2.2.1 < x12.1.2.2.2.1) then
(let v14 : Int := IntKind.wrap .i64 ((x12.1.1.length : Int) - (Int.tmod (x12.1.1.length : Int) 8))
bif inb (IntKind.wrap .i64 (v14 + x12.1.2.2.2.2.1)) x12.1.1.length then
let v15 : Int := IntKind.wrap .u64 (x12.1.1.getD (IntKind.wrap .i64 (v14 + x12.1.2.2.2.2.1)).toNat 0)
bif decide (0 ≤ IntKind.wrap .i64 (8 * x12.1.2.2.2.2.1)) then
let v16 : Int := ibits .u64 1 x12.1.2.2.1 (ishl .u64 v15 (IntKind.wrap .i64 (8 * x12.1.2.2.2.2.1)))
self13 ((x12.1.1, (), v16, x12.1.2.2.2.1, IntKind.wrap .i64 (x12.1.2.2.2.2.1 + 1), ()), (x12.2.1.1, ()), ())
else none
else none)
else
some (((), x12.1.2.2.1, ()), (x12.2.1.1, ()), ())) ((s1.1.1, (), s1.1.2.2.1, Int.tmod (s1.1.1.length : Int) 8, 0, ()), (s1.2.1.1, ()), ())) fun s11 =>
Option.bind (digest_state_word_C (s11.2.1.1, s11.1.2.1, ())) fun r17 =>
Option.bind (digest_state_rounds_C (r17.2.1.set 2 (ibits .u64 2 (r17.2.1.getD 2 0) 255), 4, ())) fun r18 =>
let v19 : Int := ibits .u64 2 (ibits .u64 2 (r18.2.1.getD 0 0) (r18.2.1.getD 1 0)) (r18.2.1.getD 2 0)
some (ibits .u64 2 v19 (r18.2.1.getD 3 0), ())
def digest_Sum_C : (Int × (Int × (List Int × Unit))) → Option (Int × Unit) := fun x => digest_Sum_F (x.2.2.1.length + 100) x
/-- flagstone/digest.Mac -/
def digest_Mac_F (fuel : Nat) : (Int × (Int × (List (List Int) × Unit))) → Option (Int × Unit) := fun x =>
Option.bind (digest_Frame_C (x.2.2.1, ())) fun r1 =>
Option.bind (digest_Sum_C (x.1, IntKind.wrap .u64 (x.2.1 + 1), r1.1, ())) fun r2 =>
some (r2.1, ())
def digest_Mac_C : (Int × (Int × (List (List Int) × Unit))) → Option (Int × Unit) := fun x => digest_Mac_F 0 x
/-- flagstone/wire.PutWord -/
def wire_PutWord_F (fuel : Nat) : (List Int × (Int × Unit)) → Option (List Int × Unit) := fun x =>
Option.bind (α := ((List Int × (Unit × Unit)) × ((List Int × Unit) × Unit))) (iter fuel (fun (self3 : ((List Int × (Int × (Unit × (Int × Unit)))) × ((List Int × Unit) × Unit)) → Option _) (x2 : ((List Int × (Int × (Unit × (Int × Unit)))) × ((List Int × Unit) × Unit))) =>
bif decide (x2.1.2.2.2.1 < 8) then
(bif decide (0 ≤ IntKind.wrap .i64 (56 - (IntKind.wrap .i64 (8 * x2.1.2.2.2.1)))) then
let v4 : Int := ishr .u64 x2.1.2.1 (IntKind.wrap .i64 (56 - (IntKind.wrap .i64 (8 * x2.1.2.2.2.1))))
bif inb x2.1.2.2.2.1 8 then
self3 ((x2.1.1, x2.1.2.1, (), IntKind.wrap .i64 (x2.1.2.2.2.1 + 1), ()), (x2.2.1.1.set x2.1.2.2.2.1.toNat (IntKind.wrap .u8 (v4)), ()), ())
else none
else none)
else
some ((x2.1.1, (), ()), (x2.2.1.1, ()), ())) ((x.1, x.2.1, (), 0, ()), (List.replicate 8 0, ()), ())) fun s1 =>
Option.bind (wire_own_C (s1.1.1, s1.2.1.1, ())) fun r5 =>
some (r5.1, ())
def wire_PutWord_C : (List Int × (Int × Unit)) → Option (List Int × Unit) := fun x => wire_PutWord_F (100) x
/-- flagstone/event.Pack -/
def event_Pack_F (fuel : Nat) : (Int × ((ByteArray × (Int × (List (ByteArray × (Int × (Int × (Int × (ByteArray × (ByteArray × (ByteArray × (Int × (Int × (Int × Unit)))))))))) × Unit))) × Unit)) → Option ((List Int × (Int × Unit)) × Unit) := fun x =>
Option.bind (event_CheckBatch_C (x.2.1, ())) fun r1 =>
bif r1.1 != 0 then
(some ((([] : List Int), r1.1, ()), ()))
else
Option.bind (wire_PutText_C (([] : List Int), x.2.1.1, ())) fun r2 =>
Option.bind (wire_PutNumber_C (r2.1, x.2.1.2.1, ())) fun r3 =>
Option.bind (wire_PutNumber_C (r3.1, (x.2.1.2.2.1.length : Int), ())) fun r4 =>
Option.bind (α := ((Int × (Unit × Unit)) × (Unit × (List Int × Unit)))) (iter fuel (fun (self7 : ((Int × (Unit × (List (ByteArray × (Int × (Int × (Int × (ByteArray × (ByteArray × (ByteArray × (Int × (Int × (Int × Unit)))))))))) × (Int × (Int × Unit))))) × (Unit × (List Int × Unit))) → Option _) (x6 : ((Int × (Unit × (List (ByteArray × (Int × (Int × (Int × (ByteArray × (ByteArray × (ByteArray × (Int × (Int × (Int × Unit)))))))))) × (Int × (Int × Unit))))) × (Unit × (List Int × Unit)))) =>
bif decide (x6.1.2.2.2.2.1 < x6.1.2.2.2.1) then
(bif inb x6.1.2.2.2.2.1 x6.1.2.2.1.length then
let v8 : (ByteArray × (Int × (Int × (Int × (ByteArray × (ByteArray × (ByteArray × (Int × (Int × (Int × Unit)))))))))) := x6.1.2.2.1.getD x6.1.2.2.2.2.1.toNat ((⟨#[]⟩ : ByteArray), 0, 0, 0, (⟨#[]⟩ : ByteArray), (⟨#[]⟩ : ByteArray), (⟨#[]⟩ : ByteArray), 0, 0, 0, ())
Option.bind (α := ((Int × (Unit × (Unit × (List (ByteArray × (Int × (Int × (Int × (ByteArray × (ByteArray × (ByteArray × (Int × (Int × (Int × Unit)))))))))) × (Int × (Int × Unit)))))) × (((ByteArray × (Int × (Int × (Int × (ByteArray × (ByteArray × (ByteArray × (Int × (Int × (Int × Unit)))))))))) × Unit) × (List Int × Unit)))) (iter fuel (fun (self11 : ((Int × (Unit × (Unit × (List (ByteArray × (Int × (Int × (Int × (ByteArray × (ByteArray × (ByteArray × (Int × (Int × (Int × Unit)))))))))) × (Int × (Int × (Unit × (Int × (Int × Unit))))))))) × (((ByteArray × (Int × (Int × (Int × (ByteArray × (ByteArray × (ByteArray × (Int × (Int × (Int × Unit)))))))))) × Unit) × (List Int × (List Int × Unit)))) → Option _) (x10 : ((Int × (Unit × (Unit × (List (ByteArray × (Int × (Int × (Int × (ByteArray × (ByteArray × (ByteArray × (Int × (Int × (Int × Unit)))))))))) × (Int × (Int × (Unit × (Int × (Int × Unit))))))))) × (((ByteArray × (Int × (Int × (Int × (ByteArray × (ByteArray × (ByteArray × (Int × (Int × (Int × Unit)))))))))) × Unit) × (List Int × (List Int × Unit))))) =>
bif decide (x10.1.2.2.2.2.2.2.2.2.1 < x10.1.2.2.2.2.2.2.2.1) then
(bif inb x10.1.2.2.2.2.2.2.2.2.1 x10.2.2.2.1.length then
bif inb x10.1.2.2.2.2.2.2.2.2.1 x10.2.2.2.1.length then
Option.bind (wire_PutNumber_C (x10.2.2.1, x10.2.2.2.1.getD x10.1.2.2.2.2.2.2.2.2.1.toNat 0, ())) fun r12 =>
self11 ((x10.1.1, (), (), x10.1.2.2.2.1, x10.1.2.2.2.2.1, x10.1.2.2.2.2.2.1, (), x10.1.2.2.2.2.2.2.2.1, IntKind.wrap .i64 (x10.1.2.2.2.2.2.2.2.2.1 + 1), ()), (x10.2.1.1, ()), r12.1, x10.2.2.2.1, ())
else none
else none)
else
some ((x10.1.1, (), (), x10.1.2.2.2.1, x10.1.2.2.2.2.1, x10.1.2.2.2.2.2.1, ()), (x10.2.1.1, ()), x10.2.2.1, ())) ((x6.1.1, (), (), x6.1.2.2.1, x6.1.2.2.2.1, x6.1.2.2.2.2.1, (), ([v8.2.1, v8.2.2.1, v8.2.2.2.1].length : Int), 0, ()), (v8, ()), x6.2.2.1, [v8.2.1, v8.2.2.1, v8.2.2.2.1], ())) fun s9 =>
let v13 : Int := ([s9.2.1.1.2.2.2.2.1, s9.2.1.1.2.2.2.2.2.1, s9.2.1.1.2.2.2.2.2.2.1].length : Int)
Option.bind (α := ((Int × (Unit × (Unit × (List (ByteArray × (Int × (Int × (Int × (ByteArray × (ByteArray × (ByteArray × (Int × (Int × (Int × Unit)))))))))) × (Int × (Int × Unit)))))) × (((ByteArray × (Int × (Int × (Int × (ByteArray × (ByteArray × (ByteArray × (Int × (Int × (Int × Unit)))))))))) × Unit) × (List Int × Unit)))) (iter fuel (fun (self16 : ((Int × (Unit × (Unit × (List (ByteArray × (Int × (Int × (Int × (ByteArray × (ByteArray × (ByteArray × (Int × (Int × (Int × Unit)))))))))) × (Int × (Int × (Unit × (Int × (Int × Unit))))))))) × (((ByteArray × (Int × (Int × (Int × (ByteArray × (ByteArray × (ByteArray × (Int × (Int × (Int × Unit)))))))))) × Unit) × (List Int × (List ByteArray × Unit)))) → Option _) (x15 : ((Int × (Unit × (Unit × (List (ByteArray × (Int × (Int × (Int × (ByteArray × (ByteArray × (ByteArray × (Int × (Int × (Int × Unit)))))))))) × (Int × (Int × (Unit × (Int × (Int × Unit))))))))) × (((ByteArray × (Int × (Int × (Int × (ByteArray × (ByteArray × (ByteArray × (Int × (Int × (Int × Unit)))))))))) × Unit) × (List Int × (List ByteArray × Unit))))) =>
bif decide (x15.1.2.2.2.2.2.2.2.2.1 < x15.1.2.2.2.2.2.2.2.1) then
(bif inb x15.1.2.2.2.2.2.2.2.2.1 x15.2.2.2.1.length then
bif inb x15.1.2.2.2.2.2.2.2.2.1 x15.2.2.2.1.length then
Option.bind (wire_PutText_C (x15.2.2.1, x15.2.2.2.1.getD x15.1.2.2.2.2.2.2.2.2.1.toNat (⟨#[]⟩ : ByteArray), ())) fun r17 =>
self16 ((x15.1.1, (), (), x15.1.2.2.2.1, x15.1.2.2.2.2.1, x15.1.2.2.2.2.2.1, (), x15.1.2.2.2.2.2.2.2.1, IntKind.wrap .i64 (x15.1.2.2.2.2.2.2.2.2.1 + 1), ()), (x15.2.1.1, ()), r17.1, x15.2.2.2.1, ())
else none
else none)
else
some ((x15.1.1, (), (), x15.1.2.2.2.1, x15.1.2.2.2.2.1, x15.1.2.2.2.2.2.1, ()), (x15.2.1.1, ()), x15.2.2.1, ())) ((s9.1.1, (), (), s9.1.2.2.2.1, s9.1.2.2.2.2.1, s9.1.2.2.2.2.2.1, (), v13, 0, ()), (s9.2.1.1, ()), s9.2.2.1, [s9.2.1.1.2.2.2.2.1, s9.2.1.1.2.2.2.2.2.1, s9.2.1.1.2.2.2.2.2.2.1], ())) fun s14 =>
let v18 : Int := ([s14.2.1.1.2.2.2.2.2.2.2.1, s14.2.1.1.2.2.2.2.2.2.2.2.1, s14.2.1.1.2.2.2.2.2.2.2.2.2.1].length : Int)
Option.bind (α := ((Int × (Unit × (List (ByteArray × (Int × (Int × (Int × (ByteArray × (ByteArray × (ByteArray × (Int × (Int × (Int × Unit)))))))))) × (Int × (Int × Unit))))) × (Unit × (List Int × Unit)))) (iter fuel (fun (self21 : ((Int × (Unit × (List (ByteArray × (Int × (Int × (Int × (ByteArray × (ByteArray × (ByteArray × (Int × (Int × (Int × Unit)))))))))) × (Int × (Int × (Unit × (Int × (Int × Unit)))))))) × (Unit × (List Int × (List Int × Unit)))) → Option _) (x20 : ((Int × (Unit × (List (ByteArray × (Int × (Int × (Int × (ByteArray × (ByteArray × (ByteArray × (Int × (Int × (Int × Unit)))))))))) × (Int × (Int × (Unit × (Int × (Int × Unit)))))))) × (Unit × (List Int × (List Int × Unit))))) =>
bif decide (x20.1.2.2.2.2.2.2.2.1 < x20.1.2.2.2.2.2.2.1) then
(bif inb x20.1.2.2.2.2.2.2.2.1 x20.2.2.2.1.length then
bif inb x20.1.2.2.2.2.2.2.2.1 x20.2.2.2.1.length then
Option.bind (wire_PutNumber_C (x20.2.2.1, x20.2.2.2.1.getD x20.1.2.2.2.2.2.2.2.1.toNat 0, ())) fun r22 =>
self21 ((x20.1.1, (), x20.1.2.2.1, x20.1.2.2.2.1, x20.1.2.2.2.2.1, (), x20.1.2.2.2.2.2.2.1, IntKind.wrap .i64 (x20.1.2.2.2.2.2.2.2.1 + 1), ()), (), r22.1, x20.2.2.2.1, ())
else none
else none)
else
some ((x20.1.1, (), x20.1.2.2.1, x20.1.2.2.2.1, x20.1.2.2.2.2.1, ()), (), x20.2.2.1, ())) ((s14.1.1, (), s14.1.2.2.2.1, s14.1.2.2.2.2.1, s14.1.2.2.2.2.2.1, (), v18, 0, ()), (), s14.2.2.1, [s14.2.1.1.2.2.2.2.2.2.2.1, s14.2.1.1.2.2.2.2.2.2.2.2.1, s14.2.1.1.2.2.2.2.2.2.2.2.2.1], ())) fun s19 =>
self7 ((s19.1.1, (), s19.1.2.2.1, s19.1.2.2.2.1, IntKind.wrap .i64 (s19.1.2.2.2.2.1 + 1), ()), (), s19.2.2.1, ())
else none)
else
some ((x6.1.1, (), ()), (), x6.2.2.1, ())) ((x.1, (), x.2.1.2.2.1, (x.2.1.2.2.1.length : Int), 0, ()), (), r4.1, ())) fun s5 =>
Option.bind (digest_Mac_C (s5.1.1, 100, [s5.2.2.1], ())) fun r23 =>
Option.bind (wire_PutWord_C (s5.2.2.1, r23.1, ())) fun r24 =>
some ((r24.1, 0, ()), ())
def event_Pack_C : (Int × ((ByteArray × (Int × (List (ByteArray × (Int × (Int × (Int × (ByteArray × (ByteArray × (ByteArray × (Int × (Int × (Int × Unit)))))))))) × Unit))) × Unit)) → Option ((List Int × (Int × Unit)) × Unit) := fun x => event_Pack_F (100) x
/-- flagstone/flagstonelaw28.awake -/
def law28_awake_F (fuel : Nat) : Unit → Option (Bool × Unit) := fun x =>
Option.bind (event_Pack_C (7, ((⟨#[97]⟩ : ByteArray), 1, ([] : List (ByteArray × (Int × (Int × (Int × (ByteArray × (ByteArray × (ByteArray × (Int × (Int × (Int × Unit))))))))))), ()), ())) fun r1 =>
Option.bind (bif (bif r1.1.2.1 == 0 then (r1.1.1.length : Int) == 12 else false) then event_Check_C (((⟨#[97]⟩ : ByteArray), 1, 3, 0, (⟨#[98]⟩ : ByteArray), (⟨#[]⟩ : ByteArray), (⟨#[98]⟩ : ByteArray), 0, 0, 0, ()), ()) else some (0, ())) fun r2 =>
some ((bif (bif r1.1.2.1 == 0 then (r1.1.1.length : Int) == 12 else false) then r2.1 == 15 else false), ())
def law28_awake_C : Unit → Option (Bool × Unit) := fun x => law28_awake_F 0 x
/-- flagstone/flagstoneref1.Word -/
def ref1_Word_F (fuel : Nat) : (ByteArray × Unit) → Option (Bool × Unit) := fun x =>
Option.bind (α := ((ByteArray × Unit) × (Unit × Unit)) ⊕ (Bool × Unit)) (iter fuel (fun (self3 : ((ByteArray × (Int × Unit)) × (Unit × Unit)) → Option _) (x2 : ((ByteArray × (Int × Unit)) × (Unit × Unit))) =>
bif decide (x2.1.2.1 < (ByteArray.size x2.1.1 : Int)) then
(bif inb x2.1.2.1 (ByteArray.size x2.1.1) then
bif (bif !(bif decide ((bOf x2.1.1 x2.1.2.1) ≥ 97) then decide ((bOf x2.1.1 x2.1.2.1) ≤ 122) else false) then (bif x2.1.2.1 == 0 then true else (bif (bif !(bif decide ((bOf x2.1.1 x2.1.2.1) ≥ 48) then decide ((bOf x2.1.1 x2.1.2.1) ≤ 57) else false) then (bOf x2.1.1 x2.1.2.1) != 45 else false) then (bOf x2.1.1 x2.1.2.1) != 95 else false)) else false) then
(Option.map Sum.inr (some (false, ())))
else
self3 ((x2.1.1, IntKind.wrap .i64 (x2.1.2.1 + 1), ()), (), ())
else none)
else
some (Sum.inl ((x2.1.1, ()), (), ()))) ((x.1, 0, ()), (), ())) fun s1 => match s1 with
| .inl s1 => (some (decide ((ByteArray.size s1.1.1 : Int) > 0), ()))
| .inr s4 => some s4
def ref1_Word_C : (ByteArray × Unit) → Option (Bool × Unit) := fun x => ref1_Word_F (x.1.size + 100) x
/-- flagstone/flagstoneref1.Reserved -/
def ref1_Reserved_F (fuel : Nat) : Unit → Option (List ByteArray × Unit) := fun x =>
some ([(⟨#[97, 110, 100]⟩ : ByteArray), (⟨#[97, 114, 109, 115]⟩ : ByteArray), (⟨#[97, 116, 116, 114, 105, 98, 117, 116, 101]⟩ : ByteArray), (⟨#[98, 111, 111, 108]⟩ : ByteArray), (⟨#[99, 108, 97, 105, 109, 115]⟩ : ByteArray), (⟨#[99, 111, 110, 116, 97, 105, 110, 115]⟩ : ByteArray), (⟨#[99, 111, 111, 108]⟩ : ByteArray), (⟨#[99, 111, 111, 108, 105, 110, 103]⟩ : ByteArray), (⟨#[100, 101, 102, 97, 117, 108, 116]⟩ : ByteArray), (⟨#[100, 114, 97, 102, 116]⟩ : ByteArray), (⟨#[101, 110, 100, 115]⟩ : ByteArray), (⟨#[101, 120, 99, 108, 117, 100, 101]⟩ : ByteArray), (⟨#[101, 120, 105, 115, 116, 115]⟩ : ByteArray), (⟨#[101, 120, 112, 101, 114, 105, 109, 101, 110, 116]⟩ : ByteArray), (⟨#[102, 97, 108, 115, 101]⟩ : ByteArray), (⟨#[102, 108, 97, 103]⟩ : ByteArray), (⟨#[104, 111, 108, 100, 111, 117, 116]⟩ : ByteArray), (⟨#[105, 110]⟩ : ByteArray), (⟨#[105, 110, 99, 108, 117, 100, 101]⟩ : ByteArray), (⟨#[105, 115]⟩ : ByteArray), (⟨#[108, 97, 121, 101, 114]⟩ : ByteArray), (⟨#[108, 105, 115, 116]⟩ : ByteArray), (⟨#[109, 101, 109, 98, 101, 114]⟩ : ByteArray), (⟨#[110, 101, 101, 100, 115]⟩ : ByteArray), (⟨#[110, 111, 116]⟩ : ByteArray), (⟨#[110, 117, 109, 98, 101, 114]⟩ : ByteArray), (⟨#[111, 102, 102]⟩ : ByteArray), (⟨#[111, 110]⟩ : ByteArray), (⟨#[111, 114]⟩ : ByteArray), (⟨#[114, 117, 108, 101]⟩ : ByteArray), (⟨#[114, 117, 110, 110, 105, 110, 103]⟩ : ByteArray), (⟨#[115, 97, 108, 116]⟩ : ByteArray), (⟨#[115, 101, 103, 109, 101, 110, 116]⟩ : ByteArray), (⟨#[115, 101, 114, 118, 101]⟩ : ByteArray), (⟨#[115, 101, 116, 116, 105, 110, 103, 115]⟩ : ByteArray), (⟨#[115, 112, 108, 105, 116]⟩ : ByteArray), (⟨#[115, 116, 97, 114, 116, 115]⟩ : ByteArray), (⟨#[115, 116, 111, 112, 112, 101, 100]⟩ : ByteArray), (⟨#[116, 97, 114, 103, 101, 116]⟩ : ByteArray), (⟨#[116, 101, 120, 116]⟩ : ByteArray), (⟨#[116, 111]⟩ : ByteArray), (⟨#[116, 114, 117, 101]⟩ : ByteArray), (⟨#[117, 110, 116, 105, 108]⟩ : ByteArray), (⟨#[118, 97, 114, 105, 97, 116, 105, 111, 110, 115]⟩ : ByteArray), (⟨#[118, 101, 114, 115, 105, 111, 110]⟩ : ByteArray), (⟨#[119, 104, 101, 110]⟩ : ByteArray)], ())
def ref1_Reserved_C : Unit → Option (List ByteArray × Unit) := fun x => ref1_Reserved_F 0 x
/-- flagstone/flagstoneref1.Key -/
def ref1_Key_F (fuel : Nat) : (ByteArray × Unit) → Option (Bool × Unit) := fun x =>
Option.bind (ref1_Word_C (x.1, ())) fun r1 =>
bif (bif !r1.1 then true else decide ((ByteArray.size x.1 : Int) > 32)) then
(some (false, ()))
else
Option.bind (ref1_Reserved_C ()) fun r2 =>
Option.bind (α := (Unit × (Unit × Unit)) ⊕ (Bool × Unit)) (iter fuel (fun (self5 : ((ByteArray × (Unit × (Int × Unit))) × (Unit × (List ByteArray × Unit))) → Option _) (x4 : ((ByteArray × (Unit × (Int × Unit))) × (Unit × (List ByteArray × Unit)))) =>
bif decide (x4.1.2.2.1 < (x4.2.2.1.length : Int)) then
(bif inb x4.1.2.2.1 x4.2.2.1.length then
bif inb x4.1.2.2.1 x4.2.2.1.length then
bif seq (x4.2.2.1.getD x4.1.2.2.1.toNat (⟨#[]⟩ : ByteArray)) x4.1.1 then
(Option.map Sum.inr (some (false, ())))
else
self5 ((x4.1.1, (), IntKind.wrap .i64 (x4.1.2.2.1 + 1), ()), (), x4.2.2.1, ())
else none
else none)
else
some (Sum.inl ((), (), ()))) ((x.1, (), 0, ()), (), r2.1, ())) fun s3 => match s3 with
| .inl s3 => (some (true, ()))
| .inr s6 => some s6
def ref1_Key_C : (ByteArray × Unit) → Option (Bool × Unit) := fun x => ref1_Key_F (100) x
/-- flagstone/flagstoneref28.within -/
def ref28_within_F (fuel : Nat) : (Int × (Int × (Int × Unit))) → Option (Bool × Unit) := fun x =>
some ((bif decide (x.1 ≥ x.2.1) then decide (x.1 ≤ x.2.2.1) else false), ())
def ref28_within_C : (Int × (Int × (Int × Unit))) → Option (Bool × Unit) := fun x => ref28_within_F 0 x
/-- flagstone/flagstoneref28.Check -/
def ref28_Check_F (fuel : Nat) : ((ByteArray × (Int × (Int × (Int × (ByteArray × (ByteArray × (ByteArray × (Int × (Int × (Int × Unit)))))))))) × Unit) → Option (Int × Unit) := fun x =>
bif (bif (bif !(x.1.2.2.1 == 1) then !(x.1.2.2.1 == 2) else false) then !(x.1.2.2.1 == 3) else false) then
(some (7, ()))
else
Option.bind (ref1_Key_C (x.1.1, ())) fun r1 =>
Option.bind (bif !(!r1.1) then ref1_Key_C (x.1.2.2.2.2.1, ()) else some (false, ())) fun r2 =>
Option.bind (bif (!(x.1.2.2.1 == 3)) && (!(bif !r1.1 then true else !r2.1)) then ref1_Key_C (x.1.2.2.2.2.2.1, ()) else some (false, ())) fun r3 =>
Option.bind (bif (x.1.2.2.1 == 3) && (!(bif (bif !r1.1 then true else !r2.1) then true else (bif !(x.1.2.2.1 == 3) then !r3.1 else false))) then ref1_Key_C (x.1.2.2.2.2.2.2.1, ()) else some (false, ())) fun r4 =>
bif (bif (bif (bif !r1.1 then true else !r2.1) then true else (bif !(x.1.2.2.1 == 3) then !r3.1 else false)) then true else (bif x.1.2.2.1 == 3 then !r4.1 else false)) then
(some (6, ()))
else
Option.bind (ref28_within_C (x.1.2.1, 1, 1073741824, ())) fun r5 =>
Option.bind (bif !(!r5.1) then ref28_within_C (x.1.2.2.2.1, 0, 1099511627776, ()) else some (false, ())) fun r6 =>
bif (bif !r5.1 then true else !r6.1) then
(some (3, ()))
else
Option.bind (bif x.1.2.2.1 == 1 then ref28_within_C (x.1.2.2.2.2.2.2.2.1, 0, 1099511627776, ()) else some (false, ())) fun r7 =>
Option.bind (bif (!(!r7.1)) && (x.1.2.2.1 == 1) then ref28_within_C (x.1.2.2.2.2.2.2.2.2.1, 1, 8, ()) else some (false, ())) fun r8 =>
bif (bif x.1.2.2.1 == 1 then (bif !r7.1 then true else !r8.1) else false) then
(some (3, ()))
else
Option.bind (bif x.1.2.2.1 == 2 then ref28_within_C (x.1.2.2.2.2.2.2.2.2.2.1, (-1099511627776), 1099511627776, ()) else some (false, ())) fun r9 =>
bif (bif x.1.2.2.1 == 2 then !r9.1 else false) then
(some (3, ()))
else
bif (bif (bif (bif (bif !(x.1.2.2.1 == 3) then !seq x.1.2.2.2.2.2.2.1 (⟨#[]⟩ : ByteArray) else false) then true else (bif !(x.1.2.2.1 == 1) then (bif x.1.2.2.2.2.2.2.2.1 != 0 then true else x.1.2.2.2.2.2.2.2.2.1 != 0) else false)) then true else (bif !(x.1.2.2.1 == 2) then x.1.2.2.2.2.2.2.2.2.2.1 != 0 else false)) then true else (bif x.1.2.2.1 == 3 then (bif !seq x.1.2.2.2.2.2.1 (⟨#[]⟩ : ByteArray) then true else seq x.1.2.2.2.2.2.2.1 x.1.2.2.2.2.1) else false)) then
(some (15, ()))
else
some (0, ())
def ref28_Check_C : ((ByteArray × (Int × (Int × (Int × (ByteArray × (ByteArray × (ByteArray × (Int × (Int × (Int × Unit)))))))))) × Unit) → Option (Int × Unit) := fun x => ref28_Check_F 0 x
/-- flagstone/flagstonelaw28.EventChecks -/
def law28_EventChecks_F (fuel : Nat) : ((ByteArray × (Int × (Int × (Int × (ByteArray × (ByteArray × (ByteArray × (Int × (Int × (Int × Unit)))))))))) × Unit) → Option (Bool × Unit) := fun x =>
Option.bind (law28_awake_C ()) fun r1 =>
bif !r1.1 then
(some (false, ()))
else
Option.bind (event_Check_C (x.1, ())) fun r2 =>
Option.bind (ref28_Check_C (x.1, ())) fun r3 =>
some (r2.1 == r3.1, ())
def law28_EventChecks_C : ((ByteArray × (Int × (Int × (Int × (ByteArray × (ByteArray × (ByteArray × (Int × (Int × (Int × Unit)))))))))) × Unit) → Option (Bool × Unit) := fun x => law28_EventChecks_F 0 x
/-- (*flagstone/flagstonedata.Source).More -/
def data_Source_More_F (fuel : Nat) : ((List Int × (Int × Unit)) × Unit) → Option (Bool × ((List Int × (Int × Unit)) × Unit)) := fun x =>
some (decide (x.1.2.1 < (x.1.1.length : Int)), x.1, ())
def data_Source_More_C : ((List Int × (Int × Unit)) × Unit) → Option (Bool × ((List Int × (Int × Unit)) × Unit)) := fun x => data_Source_More_F 0 x
/-- (*flagstone/flagstonedata.Source).Next -/
def data_Source_Next_F (fuel : Nat) : ((List Int × (Int × Unit)) × (Int × Unit)) → Option (Int × ((List Int × (Int × Unit)) × Unit)) := fun x =>
bif decide (x.1.2.1 ≥ (x.1.1.length : Int)) then
(some (0, x.1, ()))
else
bif inb (IntKind.wrap .i64 ((IntKind.wrap .i64 (x.1.2.1 + 1)) - 1)) x.1.1.length then
let v1 : Int := x.1.1.getD (IntKind.wrap .i64 ((IntKind.wrap .i64 (x.1.2.1 + 1)) - 1)).toNat 0
bif x.2.1 != 0 then
some (Int.tmod (IntKind.wrap .i64 (v1)) x.2.1, (x.1.1, IntKind.wrap .i64 (x.1.2.1 + 1), x.1.2.2), ())
else none
else none
def data_Source_Next_C : ((List Int × (Int × Unit)) × (Int × Unit)) → Option (Int × ((List Int × (Int × Unit)) × Unit)) := fun x => data_Source_Next_F 0 x
/-- flagstone/flagstonedata.Ids -/
def data_Ids_F (fuel : Nat) : Unit → Option (List ByteArray × Unit) := fun x =>
some ([(⟨#[97, 110, 110]⟩ : ByteArray), (⟨#[98, 111, 98]⟩ : ByteArray), (⟨#[99, 97, 116]⟩ : ByteArray), (⟨#[100, 97, 110]⟩ : ByteArray), (⟨#[101, 118, 101]⟩ : ByteArray), (⟨#[102, 97, 121]⟩ : ByteArray)], ())
def data_Ids_C : Unit → Option (List ByteArray × Unit) := fun x => data_Ids_F 0 x
/-- flagstone/flagstonedata.Id -/
def data_Id_F (fuel : Nat) : (Int × Unit) → Option (ByteArray × Unit) := fun x =>
Option.bind (data_Ids_C ()) fun r1 =>
Option.bind (data_Ids_C ()) fun r2 =>
bif (r2.1.length : Int) != 0 then
bif inb (Int.tmod x.1 (r2.1.length : Int)) r1.1.length then
bif inb (Int.tmod x.1 (r2.1.length : Int)) r1.1.length then
some (r1.1.getD (Int.tmod x.1 (r2.1.length : Int)).toNat (⟨#[]⟩ : ByteArray), ())
else none
else none
else none
def data_Id_C : (Int × Unit) → Option (ByteArray × Unit) := fun x => data_Id_F 0 x
/-- flagstone/flagstonedata.Experiments -/
def data_Experiments_F (fuel : Nat) : Unit → Option (List ByteArray × Unit) := fun x =>
some ([(⟨#[98, 108, 117, 101]⟩ : ByteArray), (⟨#[103, 114, 101, 101, 110]⟩ : ByteArray), (⟨#[102, 97, 115, 116]⟩ : ByteArray), (⟨#[115, 108, 111, 119]⟩ : ByteArray)], ())
def data_Experiments_C : Unit → Option (List ByteArray × Unit) := fun x => data_Experiments_F 0 x
/-- flagstone/flagstonedata.Names -/
def data_Names_F (fuel : Nat) : Unit → Option (List ByteArray × Unit) := fun x =>
some ([(⟨#[98, 117, 121]⟩ : ByteArray), (⟨#[118, 105, 115, 105, 116]⟩ : ByteArray)], ())
def data_Names_C : Unit → Option (List ByteArray × Unit) := fun x => data_Names_F 0 x
/-- flagstone/flagstonedata.Events -/
def data_Events_F (fuel : Nat) : (List Int × Unit) → Option (List (ByteArray × (Int × (Int × (Int × (ByteArray × (ByteArray × (ByteArray × (Int × (Int × (Int × Unit)))))))))) × Unit) := fun x =>
Option.bind (α := ((Unit × Unit) × (Unit × (List (ByteArray × (Int × (Int × (Int × (ByteArray × (ByteArray × (ByteArray × (Int × (Int × (Int × Unit)))))))))) × Unit)))) (iter fuel (fun (self3 : ((Unit × (Unit × (Int × (Unit × (Int × Unit))))) × (((List Int × (Int × Unit)) × Unit) × (List Int × (List (ByteArray × (Int × (Int × (Int × (ByteArray × (ByteArray × (ByteArray × (Int × (Int × (Int × Unit)))))))))) × Unit)))) → Option _) (x2 : ((Unit × (Unit × (Int × (Unit × (Int × Unit))))) × (((List Int × (Int × Unit)) × Unit) × (List Int × (List (ByteArray × (Int × (Int × (Int × (ByteArray × (ByteArray × (ByteArray × (Int × (Int × (Int × Unit)))))))))) × Unit))))) =>
Option.bind (data_Source_More_C (x2.2.1.1, ())) fun r4 =>
bif (bif r4.1 then decide ((x2.2.2.2.1.length : Int) < 60) else false) then
(Option.bind (α := ((Unit × (Unit × (Int × (Unit × (Int × Unit))))) × (((List Int × (Int × Unit)) × Unit) × (List Int × (List (ByteArray × (Int × (Int × (Int × (ByteArray × (ByteArray × (ByteArray × (Int × (Int × (Int × Unit)))))))))) × Unit))))) (Option.bind (data_Source_Next_C (r4.2.1, 4, ())) fun r6 =>
Option.bind (data_Source_Next_C (r6.2.1, 3, ())) fun r7 =>
bif (bif r6.1 == 0 then decide (r7.1 < x2.1.2.2.2.2.1) else false) then
(bif inb r7.1 x2.2.2.1.length then
bif inb r7.1 x2.2.2.1.length then
bif inb r7.1 x2.2.2.1.length then
bif inb r7.1 x2.2.2.1.length then
bif inb r7.1 ([(⟨#[97, 112, 112]⟩ : ByteArray), (⟨#[116, 97, 98]⟩ : ByteArray), (⟨#[119, 101, 98]⟩ : ByteArray)].length) then
bif inb r7.1 ([(⟨#[97, 112, 112]⟩ : ByteArray), (⟨#[116, 97, 98]⟩ : ByteArray), (⟨#[119, 101, 98]⟩ : ByteArray)].length) then
let v8 : ByteArray := [(⟨#[97, 112, 112]⟩ : ByteArray), (⟨#[116, 97, 98]⟩ : ByteArray), (⟨#[119, 101, 98]⟩ : ByteArray)].getD r7.1.toNat (⟨#[]⟩ : ByteArray)
bif inb r7.1 ((x2.2.2.1.set r7.1.toNat (IntKind.wrap .i64 ((x2.2.2.1.getD r7.1.toNat 0) + 1))).length) then
bif inb r7.1 ((x2.2.2.1.set r7.1.toNat (IntKind.wrap .i64 ((x2.2.2.1.getD r7.1.toNat 0) + 1))).length) then
let v9 : Int := (x2.2.2.1.set r7.1.toNat (IntKind.wrap .i64 ((x2.2.2.1.getD r7.1.toNat 0) + 1))).getD r7.1.toNat 0
Option.bind (data_Source_Next_C (r7.2.1, 6, ())) fun r10 =>
Option.bind (data_Id_C (r10.1, ())) fun r11 =>
Option.bind (data_Source_Next_C (r10.2.1, 8, ())) fun r12 =>
Option.bind (α := ((Unit × (Unit × (Int × (Unit × (Int × (Unit × Unit)))))) × (((ByteArray × (Int × (Int × (Int × (ByteArray × (ByteArray × (ByteArray × (Int × (Int × (Int × Unit)))))))))) × ((List Int × (Int × Unit)) × Unit)) × (List Int × (List (ByteArray × (Int × (Int × (Int × (ByteArray × (ByteArray × (ByteArray × (Int × (Int × (Int × Unit)))))))))) × Unit))))) (bif r12.1 == 0 then
(bif r12.1 == 0 then
(Option.bind (data_Experiments_C ()) fun r14 =>
Option.bind (data_Source_Next_C (r12.2.1, 8, ())) fun r15 =>
bif inb (IntKind.wrap .i64 (Int.tdiv r15.1 7)) r14.1.length then
bif inb (IntKind.wrap .i64 (Int.tdiv r15.1 7)) r14.1.length then
let v16 : ByteArray := r14.1.getD (IntKind.wrap .i64 (Int.tdiv r15.1 7)).toNat (⟨#[]⟩ : ByteArray)
Option.bind (data_Source_Next_C (r15.2.1, 10, ())) fun r17 =>
Option.bind (data_Source_Next_C (r17.2.1, 12, ())) fun r18 =>
let v19 : Int := IntKind.wrap .i64 ((IntKind.wrap .i64 (1 + (Int.tmod (Int.tmod r17.1 9) 2))) + (IntKind.wrap .i64 (Int.tdiv r18.1 11)))
Option.bind (data_Source_Next_C (r18.2.1, 5, ())) fun r20 =>
some (((), (), IntKind.wrap .i64 (x2.1.2.2.1 + 1), (), r7.1, (), ()), ((v8, v9, 1, IntKind.wrap .i64 (x2.1.2.2.1 + 1), r11.1, v16, (⟨#[]⟩ : ByteArray), IntKind.wrap .i64 (1 + (IntKind.wrap .i64 (Int.tdiv r20.1 4))), v19, 0, ()), r20.2.1, ()), x2.2.2.1.set r7.1.toNat (IntKind.wrap .i64 ((x2.2.2.1.getD r7.1.toNat 0) + 1)), x2.2.2.2.1, ())
else none
else none)
else
bif r12.1 == 3 then
(Option.bind (data_Source_Next_C (r12.2.1, 6, ())) fun r21 =>
Option.bind (data_Id_C (r21.1, ())) fun r22 =>
bif seq r22.1 r11.1 then
(Option.bind (data_Id_C (IntKind.wrap .i64 (r21.1 + 1), ())) fun r23 =>
some (((), (), IntKind.wrap .i64 (x2.1.2.2.1 + 1), (), r7.1, (), ()), ((v8, v9, 3, IntKind.wrap .i64 (x2.1.2.2.1 + 1), r11.1, (⟨#[]⟩ : ByteArray), r23.1, 0, 0, 0, ()), r21.2.1, ()), x2.2.2.1.set r7.1.toNat (IntKind.wrap .i64 ((x2.2.2.1.getD r7.1.toNat 0) + 1)), x2.2.2.2.1, ()))
else
Option.bind (data_Id_C (r21.1, ())) fun r24 =>
some (((), (), IntKind.wrap .i64 (x2.1.2.2.1 + 1), (), r7.1, (), ()), ((v8, v9, 3, IntKind.wrap .i64 (x2.1.2.2.1 + 1), r11.1, (⟨#[]⟩ : ByteArray), r24.1, 0, 0, 0, ()), r21.2.1, ()), x2.2.2.1.set r7.1.toNat (IntKind.wrap .i64 ((x2.2.2.1.getD r7.1.toNat 0) + 1)), x2.2.2.2.1, ()))
else
Option.bind (data_Names_C ()) fun r25 =>
Option.bind (data_Source_Next_C (r12.2.1, 3, ())) fun r26 =>
bif inb (IntKind.wrap .i64 (Int.tdiv r26.1 2)) r25.1.length then
bif inb (IntKind.wrap .i64 (Int.tdiv r26.1 2)) r25.1.length then
let v27 : ByteArray := r25.1.getD (IntKind.wrap .i64 (Int.tdiv r26.1 2)).toNat (⟨#[]⟩ : ByteArray)
Option.bind (data_Source_Next_C (r26.2.1, 40, ())) fun r28 =>
some (((), (), IntKind.wrap .i64 (x2.1.2.2.1 + 1), (), r7.1, (), ()), ((v8, v9, 2, IntKind.wrap .i64 (x2.1.2.2.1 + 1), r11.1, v27, (⟨#[]⟩ : ByteArray), 0, 0, IntKind.wrap .i64 (r28.1 - 4), ()), r28.2.1, ()), x2.2.2.1.set r7.1.toNat (IntKind.wrap .i64 ((x2.2.2.1.getD r7.1.toNat 0) + 1)), x2.2.2.2.1, ())
else none
else none)
else
bif r12.1 == 1 then
(bif r12.1 == 1 then
(Option.bind (data_Experiments_C ()) fun r29 =>
Option.bind (data_Source_Next_C (r12.2.1, 8, ())) fun r30 =>
bif inb (IntKind.wrap .i64 (Int.tdiv r30.1 7)) r29.1.length then
bif inb (IntKind.wrap .i64 (Int.tdiv r30.1 7)) r29.1.length then
let v31 : ByteArray := r29.1.getD (IntKind.wrap .i64 (Int.tdiv r30.1 7)).toNat (⟨#[]⟩ : ByteArray)
Option.bind (data_Source_Next_C (r30.2.1, 10, ())) fun r32 =>
Option.bind (data_Source_Next_C (r32.2.1, 12, ())) fun r33 =>
let v34 : Int := IntKind.wrap .i64 ((IntKind.wrap .i64 (1 + (Int.tmod (Int.tmod r32.1 9) 2))) + (IntKind.wrap .i64 (Int.tdiv r33.1 11)))
Option.bind (data_Source_Next_C (r33.2.1, 5, ())) fun r35 =>
some (((), (), IntKind.wrap .i64 (x2.1.2.2.1 + 1), (), r7.1, (), ()), ((v8, v9, 1, IntKind.wrap .i64 (x2.1.2.2.1 + 1), r11.1, v31, (⟨#[]⟩ : ByteArray), IntKind.wrap .i64 (1 + (IntKind.wrap .i64 (Int.tdiv r35.1 4))), v34, 0, ()), r35.2.1, ()), x2.2.2.1.set r7.1.toNat (IntKind.wrap .i64 ((x2.2.2.1.getD r7.1.toNat 0) + 1)), x2.2.2.2.1, ())
else none
else none)
else
bif r12.1 == 3 then
(Option.bind (data_Source_Next_C (r12.2.1, 6, ())) fun r36 =>
Option.bind (data_Id_C (r36.1, ())) fun r37 =>
bif seq r37.1 r11.1 then
(Option.bind (data_Id_C (IntKind.wrap .i64 (r36.1 + 1), ())) fun r38 =>
some (((), (), IntKind.wrap .i64 (x2.1.2.2.1 + 1), (), r7.1, (), ()), ((v8, v9, 3, IntKind.wrap .i64 (x2.1.2.2.1 + 1), r11.1, (⟨#[]⟩ : ByteArray), r38.1, 0, 0, 0, ()), r36.2.1, ()), x2.2.2.1.set r7.1.toNat (IntKind.wrap .i64 ((x2.2.2.1.getD r7.1.toNat 0) + 1)), x2.2.2.2.1, ()))
else
Option.bind (data_Id_C (r36.1, ())) fun r39 =>
some (((), (), IntKind.wrap .i64 (x2.1.2.2.1 + 1), (), r7.1, (), ()), ((v8, v9, 3, IntKind.wrap .i64 (x2.1.2.2.1 + 1), r11.1, (⟨#[]⟩ : ByteArray), r39.1, 0, 0, 0, ()), r36.2.1, ()), x2.2.2.1.set r7.1.toNat (IntKind.wrap .i64 ((x2.2.2.1.getD r7.1.toNat 0) + 1)), x2.2.2.2.1, ()))
else
Option.bind (data_Names_C ()) fun r40 =>
Option.bind (data_Source_Next_C (r12.2.1, 3, ())) fun r41 =>
bif inb (IntKind.wrap .i64 (Int.tdiv r41.1 2)) r40.1.length then
bif inb (IntKind.wrap .i64 (Int.tdiv r41.1 2)) r40.1.length then
let v42 : ByteArray := r40.1.getD (IntKind.wrap .i64 (Int.tdiv r41.1 2)).toNat (⟨#[]⟩ : ByteArray)
Option.bind (data_Source_Next_C (r41.2.1, 40, ())) fun r43 =>
some (((), (), IntKind.wrap .i64 (x2.1.2.2.1 + 1), (), r7.1, (), ()), ((v8, v9, 2, IntKind.wrap .i64 (x2.1.2.2.1 + 1), r11.1, v42, (⟨#[]⟩ : ByteArray), 0, 0, IntKind.wrap .i64 (r43.1 - 4), ()), r43.2.1, ()), x2.2.2.1.set r7.1.toNat (IntKind.wrap .i64 ((x2.2.2.1.getD r7.1.toNat 0) + 1)), x2.2.2.2.1, ())
else none
else none)
else
bif r12.1 == 2 then
(Option.bind (data_Experiments_C ()) fun r44 =>
Option.bind (data_Source_Next_C (r12.2.1, 8, ())) fun r45 =>
bif inb (IntKind.wrap .i64 (Int.tdiv r45.1 7)) r44.1.length then
bif inb (IntKind.wrap .i64 (Int.tdiv r45.1 7)) r44.1.length then
let v46 : ByteArray := r44.1.getD (IntKind.wrap .i64 (Int.tdiv r45.1 7)).toNat (⟨#[]⟩ : ByteArray)
Option.bind (data_Source_Next_C (r45.2.1, 10, ())) fun r47 =>
Option.bind (data_Source_Next_C (r47.2.1, 12, ())) fun r48 =>
let v49 : Int := IntKind.wrap .i64 ((IntKind.wrap .i64 (1 + (Int.tmod (Int.tmod r47.1 9) 2))) + (IntKind.wrap .i64 (Int.tdiv r48.1 11)))
Option.bind (data_Source_Next_C (r48.2.1, 5, ())) fun r50 =>
some (((), (), IntKind.wrap .i64 (x2.1.2.2.1 + 1), (), r7.1, (), ()), ((v8, v9, 1, IntKind.wrap .i64 (x2.1.2.2.1 + 1), r11.1, v46, (⟨#[]⟩ : ByteArray), IntKind.wrap .i64 (1 + (IntKind.wrap .i64 (Int.tdiv r50.1 4))), v49, 0, ()), r50.2.1, ()), x2.2.2.1.set r7.1.toNat (IntKind.wrap .i64 ((x2.2.2.1.getD r7.1.toNat 0) + 1)), x2.2.2.2.1, ())
else none
else none)
else
bif r12.1 == 3 then
(Option.bind (data_Source_Next_C (r12.2.1, 6, ())) fun r51 =>
Option.bind (data_Id_C (r51.1, ())) fun r52 =>
bif seq r52.1 r11.1 then
(Option.bind (data_Id_C (IntKind.wrap .i64 (r51.1 + 1), ())) fun r53 =>
some (((), (), IntKind.wrap .i64 (x2.1.2.2.1 + 1), (), r7.1, (), ()), ((v8, v9, 3, IntKind.wrap .i64 (x2.1.2.2.1 + 1), r11.1, (⟨#[]⟩ : ByteArray), r53.1, 0, 0, 0, ()), r51.2.1, ()), x2.2.2.1.set r7.1.toNat (IntKind.wrap .i64 ((x2.2.2.1.getD r7.1.toNat 0) + 1)), x2.2.2.2.1, ()))
else
Option.bind (data_Id_C (r51.1, ())) fun r54 =>
some (((), (), IntKind.wrap .i64 (x2.1.2.2.1 + 1), (), r7.1, (), ()), ((v8, v9, 3, IntKind.wrap .i64 (x2.1.2.2.1 + 1), r11.1, (⟨#[]⟩ : ByteArray), r54.1, 0, 0, 0, ()), r51.2.1, ()), x2.2.2.1.set r7.1.toNat (IntKind.wrap .i64 ((x2.2.2.1.getD r7.1.toNat 0) + 1)), x2.2.2.2.1, ()))
else
Option.bind (data_Names_C ()) fun r55 =>
Option.bind (data_Source_Next_C (r12.2.1, 3, ())) fun r56 =>
bif inb (IntKind.wrap .i64 (Int.tdiv r56.1 2)) r55.1.length then
bif inb (IntKind.wrap .i64 (Int.tdiv r56.1 2)) r55.1.length then
let v57 : ByteArray := r55.1.getD (IntKind.wrap .i64 (Int.tdiv r56.1 2)).toNat (⟨#[]⟩ : ByteArray)
Option.bind (data_Source_Next_C (r56.2.1, 40, ())) fun r58 =>
some (((), (), IntKind.wrap .i64 (x2.1.2.2.1 + 1), (), r7.1, (), ()), ((v8, v9, 2, IntKind.wrap .i64 (x2.1.2.2.1 + 1), r11.1, v57, (⟨#[]⟩ : ByteArray), 0, 0, IntKind.wrap .i64 (r58.1 - 4), ()), r58.2.1, ()), x2.2.2.1.set r7.1.toNat (IntKind.wrap .i64 ((x2.2.2.1.getD r7.1.toNat 0) + 1)), x2.2.2.2.1, ())
else none
else none) fun s13 =>
bif roomy s13.2.2.2.1.length ([s13.2.1.1].length) then
some (((), (), s13.1.2.2.1, (), s13.1.2.2.2.2.1, ()), (s13.2.1.2.1, ()), s13.2.2.1, s13.2.2.2.1 ++ [s13.2.1.1], ())
else none
else none
else none
else none
else none
else none
else none
else none
else none)
else
bif inb r7.1 x2.2.2.1.length then
bif inb r7.1 x2.2.2.1.length then
bif inb r7.1 x2.2.2.1.length then
bif inb r7.1 x2.2.2.1.length then
bif inb r7.1 ([(⟨#[97, 112, 112]⟩ : ByteArray), (⟨#[116, 97, 98]⟩ : ByteArray), (⟨#[119, 101, 98]⟩ : ByteArray)].length) then
bif inb r7.1 ([(⟨#[97, 112, 112]⟩ : ByteArray), (⟨#[116, 97, 98]⟩ : ByteArray), (⟨#[119, 101, 98]⟩ : ByteArray)].length) then
let v59 : ByteArray := [(⟨#[97, 112, 112]⟩ : ByteArray), (⟨#[116, 97, 98]⟩ : ByteArray), (⟨#[119, 101, 98]⟩ : ByteArray)].getD r7.1.toNat (⟨#[]⟩ : ByteArray)
bif inb r7.1 ((x2.2.2.1.set r7.1.toNat (IntKind.wrap .i64 ((x2.2.2.1.getD r7.1.toNat 0) + 1))).length) then
bif inb r7.1 ((x2.2.2.1.set r7.1.toNat (IntKind.wrap .i64 ((x2.2.2.1.getD r7.1.toNat 0) + 1))).length) then
let v60 : Int := (x2.2.2.1.set r7.1.toNat (IntKind.wrap .i64 ((x2.2.2.1.getD r7.1.toNat 0) + 1))).getD r7.1.toNat 0
Option.bind (data_Source_Next_C (r7.2.1, 6, ())) fun r61 =>
Option.bind (data_Id_C (r61.1, ())) fun r62 =>
Option.bind (data_Source_Next_C (r61.2.1, 8, ())) fun r63 =>
Option.bind (α := ((Unit × (Unit × (Int × (Unit × (Int × (Unit × Unit)))))) × (((ByteArray × (Int × (Int × (Int × (ByteArray × (ByteArray × (ByteArray × (Int × (Int × (Int × Unit)))))))))) × ((List Int × (Int × Unit)) × Unit)) × (List Int × (List (ByteArray × (Int × (Int × (Int × (ByteArray × (ByteArray × (ByteArray × (Int × (Int × (Int × Unit)))))))))) × Unit))))) (bif r63.1 == 0 then
(bif r63.1 == 0 then
(Option.bind (data_Experiments_C ()) fun r65 =>
Option.bind (data_Source_Next_C (r63.2.1, 8, ())) fun r66 =>
bif inb (IntKind.wrap .i64 (Int.tdiv r66.1 7)) r65.1.length then
bif inb (IntKind.wrap .i64 (Int.tdiv r66.1 7)) r65.1.length then
let v67 : ByteArray := r65.1.getD (IntKind.wrap .i64 (Int.tdiv r66.1 7)).toNat (⟨#[]⟩ : ByteArray)
Option.bind (data_Source_Next_C (r66.2.1, 10, ())) fun r68 =>
Option.bind (data_Source_Next_C (r68.2.1, 12, ())) fun r69 =>
let v70 : Int := IntKind.wrap .i64 ((IntKind.wrap .i64 (1 + (Int.tmod (Int.tmod r68.1 9) 2))) + (IntKind.wrap .i64 (Int.tdiv r69.1 11)))
Option.bind (data_Source_Next_C (r69.2.1, 5, ())) fun r71 =>
some (((), (), IntKind.wrap .i64 (x2.1.2.2.1 + r6.1), (), r7.1, (), ()), ((v59, v60, 1, IntKind.wrap .i64 (x2.1.2.2.1 + r6.1), r62.1, v67, (⟨#[]⟩ : ByteArray), IntKind.wrap .i64 (1 + (IntKind.wrap .i64 (Int.tdiv r71.1 4))), v70, 0, ()), r71.2.1, ()), x2.2.2.1.set r7.1.toNat (IntKind.wrap .i64 ((x2.2.2.1.getD r7.1.toNat 0) + 1)), x2.2.2.2.1, ())
else none
else none)
else
bif r63.1 == 3 then
(Option.bind (data_Source_Next_C (r63.2.1, 6, ())) fun r72 =>
Option.bind (data_Id_C (r72.1, ())) fun r73 =>
bif seq r73.1 r62.1 then
(Option.bind (data_Id_C (IntKind.wrap .i64 (r72.1 + 1), ())) fun r74 =>
some (((), (), IntKind.wrap .i64 (x2.1.2.2.1 + r6.1), (), r7.1, (), ()), ((v59, v60, 3, IntKind.wrap .i64 (x2.1.2.2.1 + r6.1), r62.1, (⟨#[]⟩ : ByteArray), r74.1, 0, 0, 0, ()), r72.2.1, ()), x2.2.2.1.set r7.1.toNat (IntKind.wrap .i64 ((x2.2.2.1.getD r7.1.toNat 0) + 1)), x2.2.2.2.1, ()))
else
Option.bind (data_Id_C (r72.1, ())) fun r75 =>
some (((), (), IntKind.wrap .i64 (x2.1.2.2.1 + r6.1), (), r7.1, (), ()), ((v59, v60, 3, IntKind.wrap .i64 (x2.1.2.2.1 + r6.1), r62.1, (⟨#[]⟩ : ByteArray), r75.1, 0, 0, 0, ()), r72.2.1, ()), x2.2.2.1.set r7.1.toNat (IntKind.wrap .i64 ((x2.2.2.1.getD r7.1.toNat 0) + 1)), x2.2.2.2.1, ()))
else
Option.bind (data_Names_C ()) fun r76 =>
Option.bind (data_Source_Next_C (r63.2.1, 3, ())) fun r77 =>
bif inb (IntKind.wrap .i64 (Int.tdiv r77.1 2)) r76.1.length then
bif inb (IntKind.wrap .i64 (Int.tdiv r77.1 2)) r76.1.length then
let v78 : ByteArray := r76.1.getD (IntKind.wrap .i64 (Int.tdiv r77.1 2)).toNat (⟨#[]⟩ : ByteArray)
Option.bind (data_Source_Next_C (r77.2.1, 40, ())) fun r79 =>
some (((), (), IntKind.wrap .i64 (x2.1.2.2.1 + r6.1), (), r7.1, (), ()), ((v59, v60, 2, IntKind.wrap .i64 (x2.1.2.2.1 + r6.1), r62.1, v78, (⟨#[]⟩ : ByteArray), 0, 0, IntKind.wrap .i64 (r79.1 - 4), ()), r79.2.1, ()), x2.2.2.1.set r7.1.toNat (IntKind.wrap .i64 ((x2.2.2.1.getD r7.1.toNat 0) + 1)), x2.2.2.2.1, ())
else none
else none)
else
bif r63.1 == 1 then
(bif r63.1 == 1 then
(Option.bind (data_Experiments_C ()) fun r80 =>
Option.bind (data_Source_Next_C (r63.2.1, 8, ())) fun r81 =>
bif inb (IntKind.wrap .i64 (Int.tdiv r81.1 7)) r80.1.length then
bif inb (IntKind.wrap .i64 (Int.tdiv r81.1 7)) r80.1.length then
let v82 : ByteArray := r80.1.getD (IntKind.wrap .i64 (Int.tdiv r81.1 7)).toNat (⟨#[]⟩ : ByteArray)
Option.bind (data_Source_Next_C (r81.2.1, 10, ())) fun r83 =>
Option.bind (data_Source_Next_C (r83.2.1, 12, ())) fun r84 =>
let v85 : Int := IntKind.wrap .i64 ((IntKind.wrap .i64 (1 + (Int.tmod (Int.tmod r83.1 9) 2))) + (IntKind.wrap .i64 (Int.tdiv r84.1 11)))
Option.bind (data_Source_Next_C (r84.2.1, 5, ())) fun r86 =>
some (((), (), IntKind.wrap .i64 (x2.1.2.2.1 + r6.1), (), r7.1, (), ()), ((v59, v60, 1, IntKind.wrap .i64 (x2.1.2.2.1 + r6.1), r62.1, v82, (⟨#[]⟩ : ByteArray), IntKind.wrap .i64 (1 + (IntKind.wrap .i64 (Int.tdiv r86.1 4))), v85, 0, ()), r86.2.1, ()), x2.2.2.1.set r7.1.toNat (IntKind.wrap .i64 ((x2.2.2.1.getD r7.1.toNat 0) + 1)), x2.2.2.2.1, ())
else none
else none)
else
bif r63.1 == 3 then
(Option.bind (data_Source_Next_C (r63.2.1, 6, ())) fun r87 =>
Option.bind (data_Id_C (r87.1, ())) fun r88 =>
bif seq r88.1 r62.1 then
(Option.bind (data_Id_C (IntKind.wrap .i64 (r87.1 + 1), ())) fun r89 =>
some (((), (), IntKind.wrap .i64 (x2.1.2.2.1 + r6.1), (), r7.1, (), ()), ((v59, v60, 3, IntKind.wrap .i64 (x2.1.2.2.1 + r6.1), r62.1, (⟨#[]⟩ : ByteArray), r89.1, 0, 0, 0, ()), r87.2.1, ()), x2.2.2.1.set r7.1.toNat (IntKind.wrap .i64 ((x2.2.2.1.getD r7.1.toNat 0) + 1)), x2.2.2.2.1, ()))
else
Option.bind (data_Id_C (r87.1, ())) fun r90 =>
some (((), (), IntKind.wrap .i64 (x2.1.2.2.1 + r6.1), (), r7.1, (), ()), ((v59, v60, 3, IntKind.wrap .i64 (x2.1.2.2.1 + r6.1), r62.1, (⟨#[]⟩ : ByteArray), r90.1, 0, 0, 0, ()), r87.2.1, ()), x2.2.2.1.set r7.1.toNat (IntKind.wrap .i64 ((x2.2.2.1.getD r7.1.toNat 0) + 1)), x2.2.2.2.1, ()))
else
Option.bind (data_Names_C ()) fun r91 =>
Option.bind (data_Source_Next_C (r63.2.1, 3, ())) fun r92 =>
bif inb (IntKind.wrap .i64 (Int.tdiv r92.1 2)) r91.1.length then
bif inb (IntKind.wrap .i64 (Int.tdiv r92.1 2)) r91.1.length then
let v93 : ByteArray := r91.1.getD (IntKind.wrap .i64 (Int.tdiv r92.1 2)).toNat (⟨#[]⟩ : ByteArray)
Option.bind (data_Source_Next_C (r92.2.1, 40, ())) fun r94 =>
some (((), (), IntKind.wrap .i64 (x2.1.2.2.1 + r6.1), (), r7.1, (), ()), ((v59, v60, 2, IntKind.wrap .i64 (x2.1.2.2.1 + r6.1), r62.1, v93, (⟨#[]⟩ : ByteArray), 0, 0, IntKind.wrap .i64 (r94.1 - 4), ()), r94.2.1, ()), x2.2.2.1.set r7.1.toNat (IntKind.wrap .i64 ((x2.2.2.1.getD r7.1.toNat 0) + 1)), x2.2.2.2.1, ())
else none
else none)
else
bif r63.1 == 2 then
(Option.bind (data_Experiments_C ()) fun r95 =>
Option.bind (data_Source_Next_C (r63.2.1, 8, ())) fun r96 =>
bif inb (IntKind.wrap .i64 (Int.tdiv r96.1 7)) r95.1.length then
bif inb (IntKind.wrap .i64 (Int.tdiv r96.1 7)) r95.1.length then
let v97 : ByteArray := r95.1.getD (IntKind.wrap .i64 (Int.tdiv r96.1 7)).toNat (⟨#[]⟩ : ByteArray)
Option.bind (data_Source_Next_C (r96.2.1, 10, ())) fun r98 =>
Option.bind (data_Source_Next_C (r98.2.1, 12, ())) fun r99 =>
let v100 : Int := IntKind.wrap .i64 ((IntKind.wrap .i64 (1 + (Int.tmod (Int.tmod r98.1 9) 2))) + (IntKind.wrap .i64 (Int.tdiv r99.1 11)))
Option.bind (data_Source_Next_C (r99.2.1, 5, ())) fun r101 =>
some (((), (), IntKind.wrap .i64 (x2.1.2.2.1 + r6.1), (), r7.1, (), ()), ((v59, v60, 1, IntKind.wrap .i64 (x2.1.2.2.1 + r6.1), r62.1, v97, (⟨#[]⟩ : ByteArray), IntKind.wrap .i64 (1 + (IntKind.wrap .i64 (Int.tdiv r101.1 4))), v100, 0, ()), r101.2.1, ()), x2.2.2.1.set r7.1.toNat (IntKind.wrap .i64 ((x2.2.2.1.getD r7.1.toNat 0) + 1)), x2.2.2.2.1, ())
else none
else none)
else
bif r63.1 == 3 then
(Option.bind (data_Source_Next_C (r63.2.1, 6, ())) fun r102 =>
Option.bind (data_Id_C (r102.1, ())) fun r103 =>
bif seq r103.1 r62.1 then
(Option.bind (data_Id_C (IntKind.wrap .i64 (r102.1 + 1), ())) fun r104 =>
some (((), (), IntKind.wrap .i64 (x2.1.2.2.1 + r6.1), (), r7.1, (), ()), ((v59, v60, 3, IntKind.wrap .i64 (x2.1.2.2.1 + r6.1), r62.1, (⟨#[]⟩ : ByteArray), r104.1, 0, 0, 0, ()), r102.2.1, ()), x2.2.2.1.set r7.1.toNat (IntKind.wrap .i64 ((x2.2.2.1.getD r7.1.toNat 0) + 1)), x2.2.2.2.1, ()))
else
Option.bind (data_Id_C (r102.1, ())) fun r105 =>
some (((), (), IntKind.wrap .i64 (x2.1.2.2.1 + r6.1), (), r7.1, (), ()), ((v59, v60, 3, IntKind.wrap .i64 (x2.1.2.2.1 + r6.1), r62.1, (⟨#[]⟩ : ByteArray), r105.1, 0, 0, 0, ()), r102.2.1, ()), x2.2.2.1.set r7.1.toNat (IntKind.wrap .i64 ((x2.2.2.1.getD r7.1.toNat 0) + 1)), x2.2.2.2.1, ()))
else
Option.bind (data_Names_C ()) fun r106 =>
Option.bind (data_Source_Next_C (r63.2.1, 3, ())) fun r107 =>
bif inb (IntKind.wrap .i64 (Int.tdiv r107.1 2)) r106.1.length then
bif inb (IntKind.wrap .i64 (Int.tdiv r107.1 2)) r106.1.length then
let v108 : ByteArray := r106.1.getD (IntKind.wrap .i64 (Int.tdiv r107.1 2)).toNat (⟨#[]⟩ : ByteArray)
Option.bind (data_Source_Next_C (r107.2.1, 40, ())) fun r109 =>
some (((), (), IntKind.wrap .i64 (x2.1.2.2.1 + r6.1), (), r7.1, (), ()), ((v59, v60, 2, IntKind.wrap .i64 (x2.1.2.2.1 + r6.1), r62.1, v108, (⟨#[]⟩ : ByteArray), 0, 0, IntKind.wrap .i64 (r109.1 - 4), ()), r109.2.1, ()), x2.2.2.1.set r7.1.toNat (IntKind.wrap .i64 ((x2.2.2.1.getD r7.1.toNat 0) + 1)), x2.2.2.2.1, ())
else none
else none) fun s64 =>
bif roomy s64.2.2.2.1.length ([s64.2.1.1].length) then
some (((), (), s64.1.2.2.1, (), s64.1.2.2.2.2.1, ()), (s64.2.1.2.1, ()), s64.2.2.1, s64.2.2.2.1 ++ [s64.2.1.1], ())
else none
else none
else none
else none
else none
else none
else none
else none
else none) fun s5 =>
self3 (((), (), s5.1.2.2.1, (), s5.1.2.2.2.2.1, ()), (s5.2.1.1, ()), s5.2.2.1, s5.2.2.2.1, ()))
else
some (((), ()), (), x2.2.2.2.1, ())) (((), (), 0, (), (-1), ()), ((x.1, 0, ()), ()), [0, 0, 0], ([] : List (ByteArray × (Int × (Int × (Int × (ByteArray × (ByteArray × (ByteArray × (Int × (Int × (Int × Unit))))))))))), ())) fun s1 =>
some (s1.2.2.1, ())
def data_Events_C : (List Int × Unit) → Option (List (ByteArray × (Int × (Int × (Int × (ByteArray × (ByteArray × (ByteArray × (Int × (Int × (Int × Unit)))))))))) × Unit) := fun x => data_Events_F (100) x
/-- flagstone/flagstonelaw28.limits -/
def law28_limits_F (fuel : Nat) : (Int × (Int × Unit)) → Option (Int × Unit) := fun x =>
bif inb (Int.tmod x.1 14) ([x.2.1, 0, 1, (-1), 1073741824, 1073741825, 1099511627776, 1099511627777, 1099511627776, 1099511627777, (-1099511627776), (-1099511627777), 8, 9].length) then
bif inb (Int.tmod x.1 14) ([x.2.1, 0, 1, (-1), 1073741824, 1073741825, 1099511627776, 1099511627777, 1099511627776, 1099511627777, (-1099511627776), (-1099511627777), 8, 9].length) then
let v1 : Int := [x.2.1, 0, 1, (-1), 1073741824, 1073741825, 1099511627776, 1099511627777, 1099511627776, 1099511627777, (-1099511627776), (-1099511627777), 8, 9].getD (Int.tmod x.1 14).toNat 0
some (v1, ())
else none
else none
def law28_limits_C : (Int × (Int × Unit)) → Option (Int × Unit) := fun x => law28_limits_F 0 x
/-- flagstone/flagstonelaw28.change -/
def law28_change_F (fuel : Nat) : ((ByteArray × (Int × (Int × (Int × (ByteArray × (ByteArray × (ByteArray × (Int × (Int × (Int × Unit)))))))))) × (Int × (Int × (ByteArray × Unit)))) → Option ((ByteArray × (Int × (Int × (Int × (ByteArray × (ByteArray × (ByteArray × (Int × (Int × (Int × Unit)))))))))) × Unit) := fun x =>
Option.bind (α := ((Unit × (Unit × Unit)) × (((ByteArray × (Int × (Int × (Int × (ByteArray × (ByteArray × (ByteArray × (Int × (Int × (Int × Unit)))))))))) × ((ByteArray × (Int × (Int × (Int × (ByteArray × (ByteArray × (ByteArray × (Int × (Int × (Int × Unit)))))))))) × Unit)) × Unit))) (bif (Int.tmod x.2.1 12) == 0 then
(some (((), (), ()), ((x.2.2.2.1, x.1.2), ((⟨#[]⟩ : ByteArray), 0, 0, 0, (⟨#[]⟩ : ByteArray), (⟨#[]⟩ : ByteArray), (⟨#[]⟩ : ByteArray), 0, 0, 0, ()), ()), ()))
else
bif (Int.tmod x.2.1 12) == 1 then
(some (((), (), ()), ((x.1.1, x.2.2.1, x.1.2.2), ((⟨#[]⟩ : ByteArray), 0, 0, 0, (⟨#[]⟩ : ByteArray), (⟨#[]⟩ : ByteArray), (⟨#[]⟩ : ByteArray), 0, 0, 0, ()), ()), ()))
else
bif (Int.tmod x.2.1 12) == 2 then
(some (((), (), ()), ((x.1.1, x.1.2.1, Int.tmod x.2.2.1 5, x.1.2.2.2), ((⟨#[]⟩ : ByteArray), 0, 0, 0, (⟨#[]⟩ : ByteArray), (⟨#[]⟩ : ByteArray), (⟨#[]⟩ : ByteArray), 0, 0, 0, ()), ()), ()))
else
bif (Int.tmod x.2.1 12) == 3 then
(some (((), (), ()), ((x.1.1, x.1.2.1, x.1.2.2.1, x.2.2.1, x.1.2.2.2.2), ((⟨#[]⟩ : ByteArray), 0, 0, 0, (⟨#[]⟩ : ByteArray), (⟨#[]⟩ : ByteArray), (⟨#[]⟩ : ByteArray), 0, 0, 0, ()), ()), ()))
else
bif (Int.tmod x.2.1 12) == 4 then
(some (((), (), ()), ((x.1.1, x.1.2.1, x.1.2.2.1, x.1.2.2.2.1, x.2.2.2.1, x.1.2.2.2.2.2), ((⟨#[]⟩ : ByteArray), 0, 0, 0, (⟨#[]⟩ : ByteArray), (⟨#[]⟩ : ByteArray), (⟨#[]⟩ : ByteArray), 0, 0, 0, ()), ()), ()))
else
bif (Int.tmod x.2.1 12) == 5 then
(some (((), (), ()), ((x.1.1, x.1.2.1, x.1.2.2.1, x.1.2.2.2.1, x.1.2.2.2.2.1, x.2.2.2.1, x.1.2.2.2.2.2.2), ((⟨#[]⟩ : ByteArray), 0, 0, 0, (⟨#[]⟩ : ByteArray), (⟨#[]⟩ : ByteArray), (⟨#[]⟩ : ByteArray), 0, 0, 0, ()), ()), ()))
else
bif (Int.tmod x.2.1 12) == 6 then
(some (((), (), ()), ((x.1.1, x.1.2.1, x.1.2.2.1, x.1.2.2.2.1, x.1.2.2.2.2.1, x.1.2.2.2.2.2.1, x.2.2.2.1, x.1.2.2.2.2.2.2.2), ((⟨#[]⟩ : ByteArray), 0, 0, 0, (⟨#[]⟩ : ByteArray), (⟨#[]⟩ : ByteArray), (⟨#[]⟩ : ByteArray), 0, 0, 0, ()), ()), ()))
else
bif (Int.tmod x.2.1 12) == 7 then
(some (((), (), ()), ((x.1.1, x.1.2.1, x.1.2.2.1, x.1.2.2.2.1, x.1.2.2.2.2.1, x.1.2.2.2.2.2.1, x.1.2.2.2.2.2.2.1, x.2.2.1, x.1.2.2.2.2.2.2.2.2), ((⟨#[]⟩ : ByteArray), 0, 0, 0, (⟨#[]⟩ : ByteArray), (⟨#[]⟩ : ByteArray), (⟨#[]⟩ : ByteArray), 0, 0, 0, ()), ()), ()))
else
bif (Int.tmod x.2.1 12) == 8 then
(some (((), (), ()), ((x.1.1, x.1.2.1, x.1.2.2.1, x.1.2.2.2.1, x.1.2.2.2.2.1, x.1.2.2.2.2.2.1, x.1.2.2.2.2.2.2.1, x.1.2.2.2.2.2.2.2.1, x.2.2.1, x.1.2.2.2.2.2.2.2.2.2), ((⟨#[]⟩ : ByteArray), 0, 0, 0, (⟨#[]⟩ : ByteArray), (⟨#[]⟩ : ByteArray), (⟨#[]⟩ : ByteArray), 0, 0, 0, ()), ()), ()))
else
bif (Int.tmod x.2.1 12) == 9 then
(some (((), (), ()), ((x.1.1, x.1.2.1, x.1.2.2.1, x.1.2.2.2.1, x.1.2.2.2.2.1, x.1.2.2.2.2.2.1, x.1.2.2.2.2.2.2.1, x.1.2.2.2.2.2.2.2.1, x.1.2.2.2.2.2.2.2.2.1, x.2.2.1, x.1.2.2.2.2.2.2.2.2.2.2), ((⟨#[]⟩ : ByteArray), 0, 0, 0, (⟨#[]⟩ : ByteArray), (⟨#[]⟩ : ByteArray), (⟨#[]⟩ : ByteArray), 0, 0, 0, ()), ()), ()))
else
bif (Int.tmod x.2.1 12) == 10 then
(some (((), (), ()), ((x.1.1, x.1.2.1, x.1.2.2.1, x.1.2.2.2.1, x.1.2.2.2.2.1, x.1.2.2.2.2.2.1, x.1.2.2.2.2.1, x.1.2.2.2.2.2.2.2), ((⟨#[]⟩ : ByteArray), 0, 0, 0, (⟨#[]⟩ : ByteArray), (⟨#[]⟩ : ByteArray), (⟨#[]⟩ : ByteArray), 0, 0, 0, ()), ()), ()))
else
some (((), (), ()), (x.1, ((⟨#[]⟩ : ByteArray), 0, 0, 0, (⟨#[]⟩ : ByteArray), (⟨#[]⟩ : ByteArray), (⟨#[]⟩ : ByteArray), 0, 0, 0, ()), ()), ())) fun s1 =>
some (s1.2.1.1, ())
def law28_change_C : ((ByteArray × (Int × (Int × (Int × (ByteArray × (ByteArray × (ByteArray × (Int × (Int × (Int × Unit)))))))))) × (Int × (Int × (ByteArray × Unit)))) → Option ((ByteArray × (Int × (Int × (Int × (ByteArray × (ByteArray × (ByteArray × (Int × (Int × (Int × Unit)))))))))) × Unit) := fun x => law28_change_F 0 x
/-- flagstone/flagstonelaw28.EventSpoilt -/
def law28_EventSpoilt_F (fuel : Nat) : (List Int × (Int × (Int × (Int × (Int × (Int × (ByteArray × Unit))))))) → Option (Bool × Unit) := fun x =>
Option.bind (law28_awake_C ()) fun r1 =>
bif !r1.1 then
(some (false, ()))
else
Option.bind (data_Events_C (x.1, ())) fun r2 =>
bif (bif (bif (r2.1.length : Int) == 0 then true else decide ((x.1.length : Int) > 300)) then true else decide ((ByteArray.size x.2.2.2.2.2.2.1 : Int) > 100)) then
(some (true, ()))
else
bif (r2.1.length : Int) != 0 then
bif inb (Int.tmod (IntKind.wrap .i64 (x.2.1)) (r2.1.length : Int)) r2.1.length then
bif inb (Int.tmod (IntKind.wrap .i64 (x.2.1)) (r2.1.length : Int)) r2.1.length then
let v3 : (ByteArray × (Int × (Int × (Int × (ByteArray × (ByteArray × (ByteArray × (Int × (Int × (Int × Unit)))))))))) := r2.1.getD (Int.tmod (IntKind.wrap .i64 (x.2.1)) (r2.1.length : Int)).toNat ((⟨#[]⟩ : ByteArray), 0, 0, 0, (⟨#[]⟩ : ByteArray), (⟨#[]⟩ : ByteArray), (⟨#[]⟩ : ByteArray), 0, 0, 0, ())
Option.bind (law28_limits_C (x.2.2.2.2.1, x.2.2.2.2.2.1, ())) fun r4 =>
Option.bind (law28_change_C (v3, x.2.2.1, r4.1, x.2.2.2.2.2.2.1, ())) fun r5 =>
Option.bind (law28_limits_C (IntKind.wrap .u8 (Int.tdiv x.2.2.2.2.1 14), x.2.2.2.2.2.1, ())) fun r6 =>
Option.bind (law28_change_C ((r5.1.1, r5.1.2.1, r5.1.2.2.1, r5.1.2.2.2.1, r5.1.2.2.2.2.1, r5.1.2.2.2.2.2.1, r5.1.2.2.2.2.2.2.1, r5.1.2.2.2.2.2.2.2.1, r5.1.2.2.2.2.2.2.2.2.1, r5.1.2.2.2.2.2.2.2.2.2.1, ()), x.2.2.2.1, r6.1, x.2.2.2.2.2.2.1, ())) fun r7 =>
Option.bind (event_Check_C (v3, ())) fun r8 =>
Option.bind (bif r8.1 == 0 then event_Check_C ((r5.1.1, r5.1.2.1, r5.1.2.2.1, r5.1.2.2.2.1, r5.1.2.2.2.2.1, r5.1.2.2.2.2.2.1, r5.1.2.2.2.2.2.2.1, r5.1.2.2.2.2.2.2.2.1, r5.1.2.2.2.2.2.2.2.2.1, r5.1.2.2.2.2.2.2.2.2.2.1, ()), ()) else some (0, ())) fun r9 =>
Option.bind (bif r8.1 == 0 then ref28_Check_C ((r5.1.1, r5.1.2.1, r5.1.2.2.1, r5.1.2.2.2.1, r5.1.2.2.2.2.1, r5.1.2.2.2.2.2.1, r5.1.2.2.2.2.2.2.1, r5.1.2.2.2.2.2.2.2.1, r5.1.2.2.2.2.2.2.2.2.1, r5.1.2.2.2.2.2.2.2.2.2.1, ()), ()) else some (0, ())) fun r10 =>
Option.bind (bif (bif r8.1 == 0 then r9.1 == r10.1 else false) then event_Check_C ((r7.1.1, r7.1.2.1, r7.1.2.2.1, r7.1.2.2.2.1, r7.1.2.2.2.2.1, r7.1.2.2.2.2.2.1, r7.1.2.2.2.2.2.2.1, r7.1.2.2.2.2.2.2.2.1, r7.1.2.2.2.2.2.2.2.2.1, r7.1.2.2.2.2.2.2.2.2.2.1, ()), ()) else some (0, ())) fun r11 =>
Option.bind (bif (bif r8.1 == 0 then r9.1 == r10.1 else false) then ref28_Check_C ((r7.1.1, r7.1.2.1, r7.1.2.2.1, r7.1.2.2.2.1, r7.1.2.2.2.2.1, r7.1.2.2.2.2.2.1, r7.1.2.2.2.2.2.2.1, r7.1.2.2.2.2.2.2.2.1, r7.1.2.2.2.2.2.2.2.2.1, r7.1.2.2.2.2.2.2.2.2.2.1, ()), ()) else some (0, ())) fun r12 =>
some ((bif (bif r8.1 == 0 then r9.1 == r10.1 else false) then r11.1 == r12.1 else false), ())
else none
else none
else none
def law28_EventSpoilt_C : (List Int × (Int × (Int × (Int × (Int × (Int × (ByteArray × Unit))))))) → Option (Bool × Unit) := fun x => law28_EventSpoilt_F 0 x
/-- flagstone/flagstoneref28.CheckBatch -/
def ref28_CheckBatch_F (fuel : Nat) : ((ByteArray × (Int × (List (ByteArray × (Int × (Int × (Int × (ByteArray × (ByteArray × (ByteArray × (Int × (Int × (Int × Unit)))))))))) × Unit))) × Unit) → Option (Int × Unit) := fun x =>
Option.bind (ref1_Key_C (x.1.1, ())) fun r1 =>
bif !r1.1 then
(some (6, ()))
else
Option.bind (ref28_within_C (x.1.2.1, 1, 1073741825, ())) fun r2 =>
bif !r2.1 then
(some (3, ()))
else
bif decide ((x.1.2.2.1.length : Int) > 32) then
(some (5, ()))
else
Option.bind (α := (Unit × (Unit × Unit)) ⊕ (Int × Unit)) (iter fuel (fun (self5 : ((Unit × (Int × Unit)) × (((ByteArray × (Int × (List (ByteArray × (Int × (Int × (Int × (ByteArray × (ByteArray × (ByteArray × (Int × (Int × (Int × Unit)))))))))) × Unit))) × Unit) × Unit)) → Option _) (x4 : ((Unit × (Int × Unit)) × (((ByteArray × (Int × (List (ByteArray × (Int × (Int × (Int × (ByteArray × (ByteArray × (ByteArray × (Int × (Int × (Int × Unit)))))))))) × Unit))) × Unit) × Unit))) =>
bif decide (x4.1.2.1 < (x4.2.1.1.2.2.1.length : Int)) then
(bif inb x4.1.2.1 x4.2.1.1.2.2.1.length then
let v6 : (ByteArray × (Int × (Int × (Int × (ByteArray × (ByteArray × (ByteArray × (Int × (Int × (Int × Unit)))))))))) := x4.2.1.1.2.2.1.getD x4.1.2.1.toNat ((⟨#[]⟩ : ByteArray), 0, 0, 0, (⟨#[]⟩ : ByteArray), (⟨#[]⟩ : ByteArray), (⟨#[]⟩ : ByteArray), 0, 0, 0, ())
Option.bind (ref28_Check_C (v6, ())) fun r7 =>
bif r7.1 != 0 then
(Option.map Sum.inr (some (r7.1, ())))
else
bif !seq v6.1 x4.2.1.1.1 then
(Option.map Sum.inr (some (15, ())))
else
bif !((decide (x4.1.2.1 > 0)) && (!(decide (v6.2.1 < x4.2.1.1.2.1)))) || (inb (IntKind.wrap .i64 (x4.1.2.1 - 1)) x4.2.1.1.2.2.1.length) then
let v8 : (ByteArray × (Int × (Int × (Int × (ByteArray × (ByteArray × (ByteArray × (Int × (Int × (Int × Unit)))))))))) := x4.2.1.1.2.2.1.getD (IntKind.wrap .i64 (x4.1.2.1 - 1)).toNat ((⟨#[]⟩ : ByteArray), 0, 0, 0, (⟨#[]⟩ : ByteArray), (⟨#[]⟩ : ByteArray), (⟨#[]⟩ : ByteArray), 0, 0, 0, ())
bif (bif decide (v6.2.1 < x4.2.1.1.2.1) then true else (bif decide (x4.1.2.1 > 0) then decide (v6.2.1 ≤ v8.2.1) else false)) then
(Option.map Sum.inr (some (9, ())))
else
self5 (((), IntKind.wrap .i64 (x4.1.2.1 + 1), ()), (x4.2.1.1, ()), ())
else none
else none)
else
some (Sum.inl ((), (), ()))) (((), 0, ()), (x.1, ()), ())) fun s3 => match s3 with
| .inl s3 => (some (0, ()))
| .inr s9 => some s9
def ref28_CheckBatch_C : ((ByteArray × (Int × (List (ByteArray × (Int × (Int × (Int × (ByteArray × (ByteArray × (ByteArray × (Int × (Int × (Int × Unit)))))))))) × Unit))) × Unit) → Option (Int × Unit) := fun x => ref28_CheckBatch_F (100) x
/-- flagstone/flagstoneref4.PutNumber -/
def ref4_PutNumber_F (fuel : Nat) : (List Int × (Int × Unit)) → Option (List Int × Unit) := fun x =>
bif roomy 0 x.1.length then
bif decide (x.2.1 < 0) then
(let v1 : Int := ibits .u64 2 18446744073709551615 (ishl .u64 (IntKind.wrap .u64 (x.2.1)) 1)
Option.bind (α := ((Unit × (Int × Unit)) × (Unit × (List Int × Unit)))) (iter fuel (fun (self4 : ((Unit × (Int × Unit)) × (Unit × (List Int × Unit))) → Option _) (x3 : ((Unit × (Int × Unit)) × (Unit × (List Int × Unit)))) =>
bif decide (x3.1.2.1 > 127) then
(bif roomy x3.2.2.1.length ([ibits .u8 1 (IntKind.wrap .u8 (ibits .u64 0 x3.1.2.1 127)) 128].length) then
self4 (((), ishr .u64 x3.1.2.1 7, ()), (), x3.2.2.1 ++ [ibits .u8 1 (IntKind.wrap .u8 (ibits .u64 0 x3.1.2.1 127)) 128], ())
else none)
else
some (((), x3.1.2.1, ()), (), x3.2.2.1, ())) (((), v1, ()), (), x.1, ())) fun s2 =>
bif roomy s2.2.2.1.length ([IntKind.wrap .u8 (s2.1.2.1)].length) then
some (s2.2.2.1 ++ [IntKind.wrap .u8 (s2.1.2.1)], ())
else none)
else
Option.bind (α := ((Unit × (Int × Unit)) × (Unit × (List Int × Unit)))) (iter fuel (fun (self7 : ((Unit × (Int × Unit)) × (Unit × (List Int × Unit))) → Option _) (x6 : ((Unit × (Int × Unit)) × (Unit × (List Int × Unit)))) =>
bif decide (x6.1.2.1 > 127) then
(bif roomy x6.2.2.1.length ([ibits .u8 1 (IntKind.wrap .u8 (ibits .u64 0 x6.1.2.1 127)) 128].length) then
self7 (((), ishr .u64 x6.1.2.1 7, ()), (), x6.2.2.1 ++ [ibits .u8 1 (IntKind.wrap .u8 (ibits .u64 0 x6.1.2.1 127)) 128], ())
else none)
else
some (((), x6.1.2.1, ()), (), x6.2.2.1, ())) (((), ishl .u64 (IntKind.wrap .u64 (x.2.1)) 1, ()), (), x.1, ())) fun s5 =>
bif roomy s5.2.2.1.length ([IntKind.wrap .u8 (s5.1.2.1)].length) then
some (s5.2.2.1 ++ [IntKind.wrap .u8 (s5.1.2.1)], ())
else none
else none
def ref4_PutNumber_C : (List Int × (Int × Unit)) → Option (List Int × Unit) := fun x => ref4_PutNumber_F (100) x
/-- flagstone/flagstoneref4.PutText -/
def ref4_PutText_F (fuel : Nat) : (List Int × (ByteArray × Unit)) → Option (List Int × Unit) := fun x =>
Option.bind (ref4_PutNumber_C (x.1, (ByteArray.size x.2.1 : Int), ())) fun r1 =>
bif roomy r1.1.length ((bytesOf x.2.1).length) then
some (r1.1 ++ (bytesOf x.2.1), ())
else none
def ref4_PutText_C : (List Int × (ByteArray × Unit)) → Option (List Int × Unit) := fun x => ref4_PutText_F 0 x
/-- flagstone/flagstoneref2.Frame -/
def ref2_Frame_F (fuel : Nat) : (List (List Int) × Unit) → Option (List Int × Unit) := fun x =>
Option.bind (α := ((Unit × Unit) × (Unit × (List Int × Unit)))) (iter fuel (fun (self3 : ((List (List Int) × (Unit × (Int × Unit))) × (Unit × (List Int × Unit))) → Option _) (x2 : ((List (List Int) × (Unit × (Int × Unit))) × (Unit × (List Int × Unit)))) =>
bif decide (x2.1.2.2.1 < (x2.1.1.length : Int)) then
(bif inb x2.1.2.2.1 x2.1.1.length then
let v4 : Int := IntKind.wrap .u64 (((x2.1.1.getD x2.1.2.2.1.toNat ([] : List Int)).length : Int))
Option.bind (α := ((List (List Int) × (Unit × (Int × Unit))) × (Unit × (List Int × Unit)))) (iter fuel (fun (self7 : ((List (List Int) × (Unit × (Int × (Int × (Int × Unit))))) × (Unit × (List Int × Unit))) → Option _) (x6 : ((List (List Int) × (Unit × (Int × (Int × (Int × Unit))))) × (Unit × (List Int × Unit)))) =>
bif decide (x6.1.2.2.2.2.1 ≥ 0) then
(bif decide (0 ≤ IntKind.wrap .u64 (x6.1.2.2.2.2.1)) then
let v8 : Int := IntKind.wrap .u8 (ishr .u64 x6.1.2.2.2.1 (IntKind.wrap .u64 (x6.1.2.2.2.2.1)))
bif roomy x6.2.2.1.length ([v8].length) then
self7 ((x6.1.1, (), x6.1.2.2.1, x6.1.2.2.2.1, IntKind.wrap .i64 (x6.1.2.2.2.2.1 - 8), ()), (), x6.2.2.1 ++ [v8], ())
else none
else none)
else
some ((x6.1.1, (), x6.1.2.2.1, ()), (), x6.2.2.1, ())) ((x2.1.1, (), x2.1.2.2.1, v4, 56, ()), (), x2.2.2.1, ())) fun s5 =>
bif inb s5.1.2.2.1 s5.1.1.length then
bif roomy s5.2.2.1.length ((s5.1.1.getD s5.1.2.2.1.toNat ([] : List Int)).length) then
self3 ((s5.1.1, (), IntKind.wrap .i64 (s5.1.2.2.1 + 1), ()), (), s5.2.2.1 ++ (s5.1.1.getD s5.1.2.2.1.toNat ([] : List Int)), ())
else none
else none
else none)
else
some (((), ()), (), x2.2.2.1, ())) ((x.1, (), 0, ()), (), ([] : List Int), ())) fun s1 =>
some (s1.2.2.1, ())
def ref2_Frame_C : (List (List Int) × Unit) → Option (List Int × Unit) := fun x => ref2_Frame_F (x.1.length + 100) x
/-- flagstone/flagstoneref2.rotate -/
def ref2_rotate_F (fuel : Nat) : (Int × (Int × Unit)) → Option (Int × Unit) := fun x =>
bif decide (0 ≤ x.2.1) then
bif decide (0 ≤ IntKind.wrap .u64 (64 - x.2.1)) then
let v1 : Int := ibits .u64 1 (ishl .u64 x.1 x.2.1) (ishr .u64 x.1 (IntKind.wrap .u64 (64 - x.2.1)))
some (v1, ())
else none
else none
def ref2_rotate_C : (Int × (Int × Unit)) → Option (Int × Unit) := fun x => ref2_rotate_F 0 x
/-- (flagstone/flagstoneref2.state).rounds -/
def ref2_state_rounds_F (fuel : Nat) : ((Int × (Int × (Int × (Int × Unit)))) × (Int × Unit)) → Option ((Int × (Int × (Int × (Int × Unit)))) × Unit) := fun x =>
Option.bind (α := ((Unit × (Unit × Unit)) × (((Int × (Int × (Int × (Int × Unit)))) × ((Int × (Int × (Int × (Int × Unit)))) × Unit)) × Unit))) (iter fuel (fun (self3 : ((Int × (Unit × (Unit × (Int × Unit)))) × (((Int × (Int × (Int × (Int × Unit)))) × ((Int × (Int × (Int × (Int × Unit)))) × Unit)) × Unit)) → Option _) (x2 : ((Int × (Unit × (Unit × (Int × Unit)))) × (((Int × (Int × (Int × (Int × Unit)))) × ((Int × (Int × (Int × (Int × Unit)))) × Unit)) × Unit))) =>
bif decide (x2.1.2.2.2.1 < x2.1.1) then
(Option.bind (ref2_rotate_C (x2.2.1.1.2.1, 13, ())) fun r4 =>
Option.bind (ref2_rotate_C (IntKind.wrap .u64 (x2.2.1.1.1 + x2.2.1.1.2.1), 32, ())) fun r5 =>
Option.bind (ref2_rotate_C (x2.2.1.1.2.2.2.1, 16, ())) fun r6 =>
let v7 : Int := ibits .u64 2 r6.1 (IntKind.wrap .u64 (x2.2.1.1.2.2.1 + x2.2.1.1.2.2.2.1))
Option.bind (ref2_rotate_C (v7, 21, ())) fun r8 =>
let v9 : Int := IntKind.wrap .u64 ((IntKind.wrap .u64 (x2.2.1.1.2.2.1 + x2.2.1.1.2.2.2.1)) + (ibits .u64 2 r4.1 (IntKind.wrap .u64 (x2.2.1.1.1 + x2.2.1.1.2.1))))
Option.bind (ref2_rotate_C (ibits .u64 2 r4.1 (IntKind.wrap .u64 (x2.2.1.1.1 + x2.2.1.1.2.1)), 17, ())) fun r10 =>
Option.bind (ref2_rotate_C (v9, 32, ())) fun r11 =>
self3 ((x2.1.1, (), (), IntKind.wrap .i64 (x2.1.2.2.2.1 + 1), ()), ((IntKind.wrap .u64 (r5.1 + v7), ibits .u64 2 r10.1 v9, r11.1, ibits .u64 2 r8.1 (IntKind.wrap .u64 (r5.1 + v7)), x2.2.1.1.2.2.2.2), x2.2.1.2.1, ()), ()))
else
some (((), (), ()), (x2.2.1.1, x2.2.1.2.1, ()), ())) ((x.2.1, (), (), 0, ()), (x.1, (0, 0, 0, 0, ()), ()), ())) fun s1 =>
some (s1.2.1.1, ())
def ref2_state_rounds_C : ((Int × (Int × (Int × (Int × Unit)))) × (Int × Unit)) → Option ((Int × (Int × (Int × (Int × Unit)))) × Unit) := fun x => ref2_state_rounds_F (100) x
/-- flagstone/flagstoneref2.Sum -/
def ref2_Sum_F (fuel : Nat) : (Int × (Int × (List Int × Unit))) → Option (Int × Unit) := fun x =>
Option.bind (α := ((Unit × Unit) × (((Int × (Int × (Int × (Int × Unit)))) × Unit) × Unit))) (iter fuel (fun (self3 : ((List Int × (Unit × (Int × Unit))) × (((Int × (Int × (Int × (Int × Unit)))) × Unit) × Unit)) → Option _) (x2 : ((List Int × (Unit × (Int × Unit))) × (((Int × (Int × (Int × (Int × Unit)))) × Unit) × Unit))) =>
let v4 : Bool := decide (x2.1.2.2.1 ≤ (IntKind.wrap .i64 (Int.tdiv (x2.1.1.length : Int) 8)))
bif v4 then
(Option.bind (α := ((List Int × (Unit × (Int × Unit))) × (((Int × (Int × (Int × (Int × Unit)))) × Unit) × Unit))) (Option.bind (α := ((List Int × (Unit × (Int × (Int × Unit)))) × (((Int × (Int × (Int × (Int × Unit)))) × Unit) × Unit))) (iter fuel (fun (self8 : ((List Int × (Unit × (Int × (Int × (Int × Unit))))) × (((Int × (Int × (Int × (Int × Unit)))) × Unit) × Unit)) → Option _) (x7 : ((List Int × (Unit × (Int × (Int × (Int × Unit))))) × (((Int × (Int × (Int × (Int × Unit)))) × Unit) × Unit))) =>
let v9 : Int := IntKind.wrap .i64 ((IntKind.wrap .i64 (8 * x7.1.2.2.1)) + x7.1.2.2.2.2.1)
bif (bif decide (x7.1.2.2.2.2.1 < 8) then decide (v9 < (x7.1.1.length : Int)) else false) then
(let v10 : Int := IntKind.wrap .i64 ((IntKind.wrap .i64 (8 * x7.1.2.2.1)) + x7.1.2.2.2.2.1)
bif inb v10 x7.1.1.length then
bif decide (0 ≤ IntKind.wrap .u64 (IntKind.wrap .i64 (8 * x7.1.2.2.2.2.1))) then
let v11 : Int := ishl .u64 (IntKind.wrap .u64 (x7.1.1.getD v10.toNat 0)) (IntKind.wrap .u64 (IntKind.wrap .i64 (8 * x7.1.2.2.2.2.1)))
self8 ((x7.1.1, (), x7.1.2.2.1, ibits .u64 1 x7.1.2.2.2.1 v11, IntKind.wrap .i64 (x7.1.2.2.2.2.1 + 1), ()), (x7.2.1.1, ()), ())
else none
else none)
else
some ((x7.1.1, (), x7.1.2.2.1, x7.1.2.2.2.1, ()), (x7.2.1.1, ()), ())) ((x2.1.1, (), x2.1.2.2.1, 0, 0, ()), (x2.2.1.1, ()), ())) fun s6 =>
bif s6.1.2.2.1 == (IntKind.wrap .i64 (Int.tdiv (s6.1.1.length : Int) 8)) then
(let v12 : Int := ibits .u64 1 s6.1.2.2.2.1 (ishl .u64 (IntKind.wrap .u64 (Int.tmod (s6.1.1.length : Int) 256)) 56)
Option.bind (ref2_state_rounds_C ((s6.2.1.1.1, s6.2.1.1.2.1, s6.2.1.1.2.2.1, ibits .u64 2 s6.2.1.1.2.2.2.1 v12, s6.2.1.1.2.2.2.2), 2, ())) fun r13 =>
some ((s6.1.1, (), s6.1.2.2.1, ()), ((ibits .u64 2 r13.1.1 v12, r13.1.2.1, r13.1.2.2.1, r13.1.2.2.2.1, ()), ()), ()))
else
Option.bind (ref2_state_rounds_C ((s6.2.1.1.1, s6.2.1.1.2.1, s6.2.1.1.2.2.1, ibits .u64 2 s6.2.1.1.2.2.2.1 s6.1.2.2.2.1, s6.2.1.1.2.2.2.2), 2, ())) fun r14 =>
some ((s6.1.1, (), s6.1.2.2.1, ()), ((ibits .u64 2 r14.1.1 s6.1.2.2.2.1, r14.1.2.1, r14.1.2.2.1, r14.1.2.2.2.1, ()), ()), ())) fun s5 =>
self3 ((s5.1.1, (), IntKind.wrap .i64 (s5.1.2.2.1 + 1), ()), (s5.2.1.1, ()), ()))
else
some (((), ()), (x2.2.1.1, ()), ())) ((x.2.2.1, (), 0, ()), ((ibits .u64 2 x.1 8317987319222330741, ibits .u64 2 x.2.1 7237128888997146477, ibits .u64 2 x.1 7816392313619706465, ibits .u64 2 x.2.1 8387220255154660723, ()), ()), ())) fun s1 =>
Option.bind (ref2_state_rounds_C ((s1.2.1.1.1, s1.2.1.1.2.1, ibits .u64 2 s1.2.1.1.2.2.1 255, s1.2.1.1.2.2.2), 4, ())) fun r15 =>
let v16 : Int := ibits .u64 2 (ibits .u64 2 (ibits .u64 2 r15.1.1 r15.1.2.1) r15.1.2.2.1) r15.1.2.2.2.1
some (v16, ())
def ref2_Sum_C : (Int × (Int × (List Int × Unit))) → Option (Int × Unit) := fun x => ref2_Sum_F (x.2.2.1.length + 100) x
/-- flagstone/flagstoneref2.Mac -/
def ref2_Mac_F (fuel : Nat) : (Int × (Int × (List (List Int) × Unit))) → Option (Int × Unit) := fun x =>
Option.bind (ref2_Frame_C (x.2.2.1, ())) fun r1 =>
Option.bind (ref2_Sum_C (x.1, IntKind.wrap .u64 (x.2.1 + 1), r1.1, ())) fun r2 =>
some (r2.1, ())
def ref2_Mac_C : (Int × (Int × (List (List Int) × Unit))) → Option (Int × Unit) := fun x => ref2_Mac_F 0 x
/-- flagstone/flagstoneref4.PutWord -/
def ref4_PutWord_F (fuel : Nat) : (List Int × (Int × Unit)) → Option (List Int × Unit) := fun x =>
bif roomy 0 x.1.length then
Option.bind (α := ((Unit × Unit) × (Unit × (List Int × Unit)))) (iter fuel (fun (self3 : ((Unit × (Int × (Int × Unit))) × (Unit × (List Int × Unit))) → Option _) (x2 : ((Unit × (Int × (Int × Unit))) × (Unit × (List Int × Unit)))) =>
bif decide (x2.1.2.2.1 ≥ 0) then
(bif decide (0 ≤ IntKind.wrap .u64 (x2.1.2.2.1)) then
bif roomy x2.2.2.1.length ([IntKind.wrap .u8 (ishr .u64 x2.1.2.1 (IntKind.wrap .u64 (x2.1.2.2.1)))].length) then
self3 (((), x2.1.2.1, IntKind.wrap .i64 (x2.1.2.2.1 - 8), ()), (), x2.2.2.1 ++ [IntKind.wrap .u8 (ishr .u64 x2.1.2.1 (IntKind.wrap .u64 (x2.1.2.2.1)))], ())
else none
else none)
else
some (((), ()), (), x2.2.2.1, ())) (((), x.2.1, 56, ()), (), x.1, ())) fun s1 =>
some (s1.2.2.1, ())
else none
def ref4_PutWord_C : (List Int × (Int × Unit)) → Option (List Int × Unit) := fun x => ref4_PutWord_F (100) x
/-- flagstone/flagstoneref28.Seal -/
def ref28_Seal_F (fuel : Nat) : (Int × (List Int × Unit)) → Option (List Int × Unit) := fun x =>
bif roomy 0 x.2.1.length then
Option.bind (ref2_Mac_C (x.1, 100, [x.2.1], ())) fun r1 =>
Option.bind (ref4_PutWord_C (([] : List Int) ++ x.2.1, r1.1, ())) fun r2 =>
some (r2.1, ())
else none
def ref28_Seal_C : (Int × (List Int × Unit)) → Option (List Int × Unit) := fun x => ref28_Seal_F 0 x
/-- flagstone/flagstoneref28.Pack -/
def ref28_Pack_F (fuel : Nat) : (Int × ((ByteArray × (Int × (List (ByteArray × (Int × (Int × (Int × (ByteArray × (ByteArray × (ByteArray × (Int × (Int × (Int × Unit)))))))))) × Unit))) × Unit)) → Option ((List Int × (Int × Unit)) × Unit) := fun x =>
Option.bind (ref28_CheckBatch_C (x.2.1, ())) fun r1 =>
bif r1.1 != 0 then
(some ((([] : List Int), r1.1, ()), ()))
else
Option.bind (ref4_PutText_C (([] : List Int), x.2.1.1, ())) fun r2 =>
Option.bind (ref4_PutNumber_C (r2.1, x.2.1.2.1, ())) fun r3 =>
Option.bind (ref4_PutNumber_C (r3.1, (x.2.1.2.2.1.length : Int), ())) fun r4 =>
Option.bind (α := ((Int × (Unit × Unit)) × (Unit × (List Int × Unit)))) (iter fuel (fun (self7 : ((Int × (Unit × (Unit × (Int × Unit)))) × (((ByteArray × (Int × (List (ByteArray × (Int × (Int × (Int × (ByteArray × (ByteArray × (ByteArray × (Int × (Int × (Int × Unit)))))))))) × Unit))) × Unit) × (List Int × Unit))) → Option _) (x6 : ((Int × (Unit × (Unit × (Int × Unit)))) × (((ByteArray × (Int × (List (ByteArray × (Int × (Int × (Int × (ByteArray × (ByteArray × (ByteArray × (Int × (Int × (Int × Unit)))))))))) × Unit))) × Unit) × (List Int × Unit)))) =>
bif decide (x6.1.2.2.2.1 < (x6.2.1.1.2.2.1.length : Int)) then
(bif inb x6.1.2.2.2.1 x6.2.1.1.2.2.1.length then
let v8 : (ByteArray × (Int × (Int × (Int × (ByteArray × (ByteArray × (ByteArray × (Int × (Int × (Int × Unit)))))))))) := x6.2.1.1.2.2.1.getD x6.1.2.2.2.1.toNat ((⟨#[]⟩ : ByteArray), 0, 0, 0, (⟨#[]⟩ : ByteArray), (⟨#[]⟩ : ByteArray), (⟨#[]⟩ : ByteArray), 0, 0, 0, ())
Option.bind (α := ((Int × (Unit × (Unit × (Int × (Unit × (Unit × Unit)))))) × (((ByteArray × (Int × (List (ByteArray × (Int × (Int × (Int × (ByteArray × (ByteArray × (ByteArray × (Int × (Int × (Int × Unit)))))))))) × Unit))) × Unit) × (List Int × (List ByteArray × (List Int × Unit)))))) (iter fuel (fun (self11 : ((Int × (Unit × (Unit × (Int × (Unit × (Unit × (Unit × (Int × Unit)))))))) × (((ByteArray × (Int × (List (ByteArray × (Int × (Int × (Int × (ByteArray × (ByteArray × (ByteArray × (Int × (Int × (Int × Unit)))))))))) × Unit))) × Unit) × (List Int × (List Int × (List ByteArray × (List Int × Unit)))))) → Option _) (x10 : ((Int × (Unit × (Unit × (Int × (Unit × (Unit × (Unit × (Int × Unit)))))))) × (((ByteArray × (Int × (List (ByteArray × (Int × (Int × (Int × (ByteArray × (ByteArray × (ByteArray × (Int × (Int × (Int × Unit)))))))))) × Unit))) × Unit) × (List Int × (List Int × (List ByteArray × (List Int × Unit))))))) =>
bif decide (x10.1.2.2.2.2.2.2.2.1 < 3) then
(bif inb x10.1.2.2.2.2.2.2.2.1 x10.2.2.2.1.length then
bif inb x10.1.2.2.2.2.2.2.2.1 x10.2.2.2.1.length then
Option.bind (ref4_PutNumber_C (x10.2.2.1, x10.2.2.2.1.getD x10.1.2.2.2.2.2.2.2.1.toNat 0, ())) fun r12 =>
self11 ((x10.1.1, (), (), x10.1.2.2.2.1, (), (), (), IntKind.wrap .i64 (x10.1.2.2.2.2.2.2.2.1 + 1), ()), (x10.2.1.1, ()), r12.1, x10.2.2.2.1, x10.2.2.2.2.1, x10.2.2.2.2.2.1, ())
else none
else none)
else
some ((x10.1.1, (), (), x10.1.2.2.2.1, (), (), ()), (x10.2.1.1, ()), x10.2.2.1, x10.2.2.2.2.1, x10.2.2.2.2.2.1, ())) ((x6.1.1, (), (), x6.1.2.2.2.1, (), (), (), 0, ()), (x6.2.1.1, ()), x6.2.2.1, [v8.2.1, v8.2.2.1, v8.2.2.2.1], [v8.2.2.2.2.1, v8.2.2.2.2.2.1, v8.2.2.2.2.2.2.1], [v8.2.2.2.2.2.2.2.1, v8.2.2.2.2.2.2.2.2.1, v8.2.2.2.2.2.2.2.2.2.1], ())) fun s9 =>
Option.bind (α := ((Int × (Unit × (Unit × (Int × (Unit × Unit))))) × (((ByteArray × (Int × (List (ByteArray × (Int × (Int × (Int × (ByteArray × (ByteArray × (ByteArray × (Int × (Int × (Int × Unit)))))))))) × Unit))) × Unit) × (List Int × (List Int × Unit))))) (iter fuel (fun (self15 : ((Int × (Unit × (Unit × (Int × (Unit × (Unit × (Int × Unit))))))) × (((ByteArray × (Int × (List (ByteArray × (Int × (Int × (Int × (ByteArray × (ByteArray × (ByteArray × (Int × (Int × (Int × Unit)))))))))) × Unit))) × Unit) × (List Int × (List ByteArray × (List Int × Unit))))) → Option _) (x14 : ((Int × (Unit × (Unit × (Int × (Unit × (Unit × (Int × Unit))))))) × (((ByteArray × (Int × (List (ByteArray × (Int × (Int × (Int × (ByteArray × (ByteArray × (ByteArray × (Int × (Int × (Int × Unit)))))))))) × Unit))) × Unit) × (List Int × (List ByteArray × (List Int × Unit)))))) =>
bif decide (x14.1.2.2.2.2.2.2.1 < 3) then
(bif inb x14.1.2.2.2.2.2.2.1 x14.2.2.2.1.length then
bif inb x14.1.2.2.2.2.2.2.1 x14.2.2.2.1.length then
Option.bind (ref4_PutText_C (x14.2.2.1, x14.2.2.2.1.getD x14.1.2.2.2.2.2.2.1.toNat (⟨#[]⟩ : ByteArray), ())) fun r16 =>
self15 ((x14.1.1, (), (), x14.1.2.2.2.1, (), (), IntKind.wrap .i64 (x14.1.2.2.2.2.2.2.1 + 1), ()), (x14.2.1.1, ()), r16.1, x14.2.2.2.1, x14.2.2.2.2.1, ())
else none
else none)
else
some ((x14.1.1, (), (), x14.1.2.2.2.1, (), ()), (x14.2.1.1, ()), x14.2.2.1, x14.2.2.2.2.1, ())) ((s9.1.1, (), (), s9.1.2.2.2.1, (), (), 0, ()), (s9.2.1.1, ()), s9.2.2.1, s9.2.2.2.1, s9.2.2.2.2.1, ())) fun s13 =>
Option.bind (α := ((Int × (Unit × (Unit × (Int × Unit)))) × (((ByteArray × (Int × (List (ByteArray × (Int × (Int × (Int × (ByteArray × (ByteArray × (ByteArray × (Int × (Int × (Int × Unit)))))))))) × Unit))) × Unit) × (List Int × Unit)))) (iter fuel (fun (self19 : ((Int × (Unit × (Unit × (Int × (Unit × (Int × Unit)))))) × (((ByteArray × (Int × (List (ByteArray × (Int × (Int × (Int × (ByteArray × (ByteArray × (ByteArray × (Int × (Int × (Int × Unit)))))))))) × Unit))) × Unit) × (List Int × (List Int × Unit)))) → Option _) (x18 : ((Int × (Unit × (Unit × (Int × (Unit × (Int × Unit)))))) × (((ByteArray × (Int × (List (ByteArray × (Int × (Int × (Int × (ByteArray × (ByteArray × (ByteArray × (Int × (Int × (Int × Unit)))))))))) × Unit))) × Unit) × (List Int × (List Int × Unit))))) =>
bif decide (x18.1.2.2.2.2.2.1 < 3) then
(bif inb x18.1.2.2.2.2.2.1 x18.2.2.2.1.length then
bif inb x18.1.2.2.2.2.2.1 x18.2.2.2.1.length then
Option.bind (ref4_PutNumber_C (x18.2.2.1, x18.2.2.2.1.getD x18.1.2.2.2.2.2.1.toNat 0, ())) fun r20 =>
self19 ((x18.1.1, (), (), x18.1.2.2.2.1, (), IntKind.wrap .i64 (x18.1.2.2.2.2.2.1 + 1), ()), (x18.2.1.1, ()), r20.1, x18.2.2.2.1, ())
else none
else none)
else
some ((x18.1.1, (), (), x18.1.2.2.2.1, ()), (x18.2.1.1, ()), x18.2.2.1, ())) ((s13.1.1, (), (), s13.1.2.2.2.1, (), 0, ()), (s13.2.1.1, ()), s13.2.2.1, s13.2.2.2.1, ())) fun s17 =>
self7 ((s17.1.1, (), (), IntKind.wrap .i64 (s17.1.2.2.2.1 + 1), ()), (s17.2.1.1, ()), s17.2.2.1, ())
else none)
else
some ((x6.1.1, (), ()), (), x6.2.2.1, ())) ((x.1, (), (), 0, ()), (x.2.1, ()), r4.1, ())) fun s5 =>
Option.bind (ref28_Seal_C (s5.1.1, s5.2.2.1, ())) fun r21 =>
some ((r21.1, 0, ()), ())
def ref28_Pack_C : (Int × ((ByteArray × (Int × (List (ByteArray × (Int × (Int × (Int × (ByteArray × (ByteArray × (ByteArray × (Int × (Int × (Int × Unit)))))))))) × Unit))) × Unit)) → Option ((List Int × (Int × Unit)) × Unit) := fun x => ref28_Pack_F (100) x
/-- flagstone/flagstonelaw28.EventBatches -/
def law28_EventBatches_F (fuel : Nat) : ((ByteArray × (Int × (List (ByteArray × (Int × (Int × (Int × (ByteArray × (ByteArray × (ByteArray × (Int × (Int × (Int × Unit)))))))))) × Unit))) × (Int × Unit)) → Option (Bool × Unit) := fun x =>
Option.bind (law28_awake_C ()) fun r1 =>
bif !r1.1 then
(some (false, ()))
else
bif decide ((x.1.2.2.1.length : Int) > 60) then
(some (true, ()))
else
Option.bind (event_Pack_C (x.2.1, x.1, ())) fun r2 =>
Option.bind (ref28_Pack_C (x.2.1, x.1, ())) fun r3 =>
Option.bind (event_CheckBatch_C (x.1, ())) fun r4 =>
Option.bind (ref28_CheckBatch_C (x.1, ())) fun r5 =>
some ((bif (bif r4.1 == r5.1 then r2.1.2.1 == r3.1.2.1 else false) then seq (strOf r2.1.1) (strOf r3.1.1) else false), ())
def law28_EventBatches_C : ((ByteArray × (Int × (List (ByteArray × (Int × (Int × (Int × (ByteArray × (ByteArray × (ByteArray × (Int × (Int × (Int × Unit)))))))))) × Unit))) × (Int × Unit)) → Option (Bool × Unit) := fun x => law28_EventBatches_F 0 x
/-- flagstone/flagstonelaw28.batch -/
def law28_batch_F (fuel : Nat) : (List Int × (Int × (Int × Unit))) → Option ((ByteArray × (Int × (List (ByteArray × (Int × (Int × (Int × (ByteArray × (ByteArray × (ByteArray × (Int × (Int × (Int × Unit)))))))))) × Unit))) × Unit) := fun x =>
bif inb (Int.tmod x.2.1 3) ([(⟨#[97, 112, 112]⟩ : ByteArray), (⟨#[116, 97, 98]⟩ : ByteArray), (⟨#[119, 101, 98]⟩ : ByteArray)].length) then
bif inb (Int.tmod x.2.1 3) ([(⟨#[97, 112, 112]⟩ : ByteArray), (⟨#[116, 97, 98]⟩ : ByteArray), (⟨#[119, 101, 98]⟩ : ByteArray)].length) then
let v1 : ByteArray := [(⟨#[97, 112, 112]⟩ : ByteArray), (⟨#[116, 97, 98]⟩ : ByteArray), (⟨#[119, 101, 98]⟩ : ByteArray)].getD (Int.tmod x.2.1 3).toNat (⟨#[]⟩ : ByteArray)
Option.bind (data_Events_C (x.1, ())) fun r2 =>
Option.bind (α := ((Int × (Unit × (Unit × Unit))) × (((ByteArray × (Int × (Unit × Unit))) × ((ByteArray × (Int × (Unit × Unit))) × Unit)) × (List (ByteArray × (Int × (Int × (Int × (ByteArray × (ByteArray × (ByteArray × (Int × (Int × (Int × Unit)))))))))) × Unit)))) (iter fuel (fun (self5 : ((Int × (Unit × (ByteArray × (Unit × (Unit × (Int × Unit)))))) × (((ByteArray × (Int × (Unit × Unit))) × ((ByteArray × (Int × (Unit × Unit))) × Unit)) × (List (ByteArray × (Int × (Int × (Int × (ByteArray × (ByteArray × (ByteArray × (Int × (Int × (Int × Unit)))))))))) × (List (ByteArray × (Int × (Int × (Int × (ByteArray × (ByteArray × (ByteArray × (Int × (Int × (Int × Unit)))))))))) × Unit)))) → Option _) (x4 : ((Int × (Unit × (ByteArray × (Unit × (Unit × (Int × Unit)))))) × (((ByteArray × (Int × (Unit × Unit))) × ((ByteArray × (Int × (Unit × Unit))) × Unit)) × (List (ByteArray × (Int × (Int × (Int × (ByteArray × (ByteArray × (ByteArray × (Int × (Int × (Int × Unit)))))))))) × (List (ByteArray × (Int × (Int × (Int × (ByteArray × (ByteArray × (ByteArray × (Int × (Int × (Int × Unit)))))))))) × Unit))))) =>
bif (bif decide (x4.1.2.2.2.2.2.1 < (x4.2.2.1.length : Int)) then decide ((x4.2.2.2.1.length : Int) < 32) else false) then
(Option.bind (α := ((Int × (Unit × (ByteArray × (Unit × (Unit × (Int × Unit)))))) × (((ByteArray × (Int × (Unit × Unit))) × ((ByteArray × (Int × (Unit × Unit))) × Unit)) × (List (ByteArray × (Int × (Int × (Int × (ByteArray × (ByteArray × (ByteArray × (Int × (Int × (Int × Unit)))))))))) × (List (ByteArray × (Int × (Int × (Int × (ByteArray × (ByteArray × (ByteArray × (Int × (Int × (Int × Unit)))))))))) × Unit))))) (bif inb x4.1.2.2.2.2.2.1 x4.2.2.1.length then
bif inb x4.1.2.2.2.2.2.1 x4.2.2.1.length then
let v7 : ByteArray := (x4.2.2.1.getD x4.1.2.2.2.2.2.1.toNat ((⟨#[]⟩ : ByteArray), 0, 0, 0, (⟨#[]⟩ : ByteArray), (⟨#[]⟩ : ByteArray), (⟨#[]⟩ : ByteArray), 0, 0, 0, ())).1
bif seq v7 x4.1.2.2.1 then
(bif inb x4.1.2.2.2.2.2.1 x4.2.2.1.length then
bif inb x4.1.2.2.2.2.2.1 x4.2.2.1.length then
let v8 : (ByteArray × (Int × (Int × (Int × (ByteArray × (ByteArray × (ByteArray × (Int × (Int × (Int × Unit)))))))))) := x4.2.2.1.getD x4.1.2.2.2.2.2.1.toNat ((⟨#[]⟩ : ByteArray), 0, 0, 0, (⟨#[]⟩ : ByteArray), (⟨#[]⟩ : ByteArray), (⟨#[]⟩ : ByteArray), 0, 0, 0, ())
bif roomy x4.2.2.2.1.length ([v8].length) then
some ((x4.1.1, (), x4.1.2.2.1, (), (), x4.1.2.2.2.2.2.1, ()), (x4.2.1.1, (x4.2.1.2.1.1, x4.2.1.2.1.2.1, (), x4.2.1.2.1.2.2.2), ()), x4.2.2.1, x4.2.2.2.1 ++ [v8], ())
else none
else none
else none)
else
some ((x4.1.1, (), x4.1.2.2.1, (), (), x4.1.2.2.2.2.2.1, ()), (x4.2.1.1, (x4.2.1.2.1.1, x4.2.1.2.1.2.1, (), x4.2.1.2.1.2.2.2), ()), x4.2.2.1, x4.2.2.2.1, ())
else none
else none) fun s6 =>
self5 ((s6.1.1, (), s6.1.2.2.1, (), (), IntKind.wrap .i64 (s6.1.2.2.2.2.2.1 + 1), ()), (s6.2.1.1, (s6.2.1.2.1.1, s6.2.1.2.1.2.1, (), s6.2.1.2.1.2.2.2), ()), s6.2.2.1, s6.2.2.2.1, ()))
else
some ((x4.1.1, (), (), ()), (x4.2.1.1, (x4.2.1.2.1.1, x4.2.1.2.1.2.1, (), x4.2.1.2.1.2.2.2), ()), x4.2.2.2.1, ())) ((x.2.2.1, (), v1, (), (), 0, ()), (((⟨#[]⟩ : ByteArray), 0, (), ()), (v1, 1, (), ()), ()), r2.1, ([] : List (ByteArray × (Int × (Int × (Int × (ByteArray × (ByteArray × (ByteArray × (Int × (Int × (Int × Unit))))))))))), ())) fun s3 =>
bif decide ((s3.2.2.1.length : Int) > 0) then
(bif inb 0 s3.2.2.1.length then
bif inb 0 s3.2.2.1.length then
let v9 : Int := ((s3.2.2.1.getD 0 ((⟨#[]⟩ : ByteArray), 0, 0, 0, (⟨#[]⟩ : ByteArray), (⟨#[]⟩ : ByteArray), (⟨#[]⟩ : ByteArray), 0, 0, 0, ())).2).1
bif v9 != 0 then
some ((s3.2.1.2.1.1, IntKind.wrap .i64 (1 + (Int.tmod (IntKind.wrap .i64 (s3.1.1)) v9)), s3.2.2.1, s3.2.1.2.1.2.2.2), ())
else none
else none
else none)
else
some ((s3.2.1.2.1.1, s3.2.1.2.1.2.1, s3.2.2.1, s3.2.1.2.1.2.2.2), ())
else none
else none
def law28_batch_C : (List Int × (Int × (Int × Unit))) → Option ((ByteArray × (Int × (List (ByteArray × (Int × (Int × (Int × (ByteArray × (ByteArray × (ByteArray × (Int × (Int × (Int × Unit)))))))))) × Unit))) × Unit) := fun x => law28_batch_F (100) x
/-- flagstone/flagstonelaw28.EventBatchSpoilt -/
def law28_EventBatchSpoilt_F (fuel : Nat) : (List Int × (Int × (Int × (Int × (Int × (Int × (Int × (ByteArray × Unit)))))))) → Option (Bool × Unit) := fun x =>
Option.bind (law28_awake_C ()) fun r1 =>
bif !r1.1 then
(some (false, ()))
else
bif (bif decide ((x.1.length : Int) > 300) then true else decide ((ByteArray.size x.2.2.2.2.2.2.2.1 : Int) > 100)) then
(some (true, ()))
else
Option.bind (law28_batch_C (x.1, x.2.1, x.2.2.1, ())) fun r2 =>
Option.bind (event_CheckBatch_C ((r2.1.1, r2.1.2.1, r2.1.2.2.1, ()), ())) fun r3 =>
bif r3.1 != 0 then
(some (false, ()))
else
bif (imax 1 (r2.1.2.2.1.length : Int)) != 0 then
let v4 : Int := Int.tmod (IntKind.wrap .i64 (x.2.2.2.1)) (imax 1 (r2.1.2.2.1.length : Int))
Option.bind (α := ((Unit × Unit) × (((ByteArray × (Int × (Unit × Unit))) × Unit) × (List (ByteArray × (Int × (Int × (Int × (ByteArray × (ByteArray × (ByteArray × (Int × (Int × (Int × Unit)))))))))) × Unit)))) (bif (Int.tmod x.2.2.2.2.1 16) == 12 then
(Option.bind (law28_limits_C (x.2.2.2.2.2.1, x.2.2.2.2.2.2.1, ())) fun r6 =>
some (((), ()), ((r2.1.1, r6.1, (), ()), ()), r2.1.2.2.1, ()))
else
bif (Int.tmod x.2.2.2.2.1 16) == 13 then
(some (((), ()), ((x.2.2.2.2.2.2.2.1, r2.1.2.1, (), ()), ()), r2.1.2.2.1, ()))
else
bif (Int.tmod x.2.2.2.2.1 16) == 14 then
(bif decide ((r2.1.2.2.1.length : Int) > 0) then
(bif inb v4 r2.1.2.2.1.length then
bif inb v4 r2.1.2.2.1.length then
let v7 : (ByteArray × (Int × (Int × (Int × (ByteArray × (ByteArray × (ByteArray × (Int × (Int × (Int × Unit)))))))))) := r2.1.2.2.1.getD v4.toNat ((⟨#[]⟩ : ByteArray), 0, 0, 0, (⟨#[]⟩ : ByteArray), (⟨#[]⟩ : ByteArray), (⟨#[]⟩ : ByteArray), 0, 0, 0, ())
bif roomy r2.1.2.2.1.length ([v7].length) then
some (((), ()), ((r2.1.1, r2.1.2.1, (), ()), ()), r2.1.2.2.1 ++ [v7], ())
else none
else none
else none)
else
some (((), ()), ((r2.1.1, r2.1.2.1, (), ()), ()), r2.1.2.2.1, ()))
else
bif (Int.tmod x.2.2.2.2.1 16) == 15 then
(Option.bind (α := ((Unit × Unit) × (((ByteArray × (Int × (Unit × Unit))) × Unit) × (List (ByteArray × (Int × (Int × (Int × (ByteArray × (ByteArray × (ByteArray × (Int × (Int × (Int × Unit)))))))))) × Unit)))) (iter fuel (fun (self10 : ((Unit × Unit) × (((ByteArray × (Int × (Unit × Unit))) × Unit) × (List (ByteArray × (Int × (Int × (Int × (ByteArray × (ByteArray × (ByteArray × (Int × (Int × (Int × Unit)))))))))) × Unit))) → Option _) (x9 : ((Unit × Unit) × (((ByteArray × (Int × (Unit × Unit))) × Unit) × (List (ByteArray × (Int × (Int × (Int × (ByteArray × (ByteArray × (ByteArray × (Int × (Int × (Int × Unit)))))))))) × Unit)))) =>
bif (bif decide ((x9.2.2.1.length : Int) > 0) then decide ((x9.2.2.1.length : Int) ≤ 32) else false) then
(bif inb (IntKind.wrap .i64 ((x9.2.2.1.length : Int) - 1)) x9.2.2.1.length then
bif inb (IntKind.wrap .i64 ((x9.2.2.1.length : Int) - 1)) x9.2.2.1.length then
let v11 : (ByteArray × (Int × (Int × (Int × (ByteArray × (ByteArray × (ByteArray × (Int × (Int × (Int × Unit)))))))))) := x9.2.2.1.getD (IntKind.wrap .i64 ((x9.2.2.1.length : Int) - 1)).toNat ((⟨#[]⟩ : ByteArray), 0, 0, 0, (⟨#[]⟩ : ByteArray), (⟨#[]⟩ : ByteArray), (⟨#[]⟩ : ByteArray), 0, 0, 0, ())
bif roomy x9.2.2.1.length ([(v11.1, IntKind.wrap .i64 (v11.2.1 + 1), v11.2.2)].length) then
self10 (((), ()), ((x9.2.1.1.1, x9.2.1.1.2.1, (), x9.2.1.1.2.2.2), ()), x9.2.2.1 ++ [(v11.1, IntKind.wrap .i64 (v11.2.1 + 1), v11.2.2)], ())
else none
else none
else none)
else
some (((), ()), ((x9.2.1.1.1, x9.2.1.1.2.1, (), x9.2.1.1.2.2.2), ()), x9.2.2.1, ())) (((), ()), ((r2.1.1, r2.1.2.1, (), ()), ()), r2.1.2.2.1, ())) fun s8 =>
some (((), ()), ((s8.2.1.1.1, s8.2.1.1.2.1, (), s8.2.1.1.2.2.2), ()), s8.2.2.1, ()))
else
bif decide ((r2.1.2.2.1.length : Int) > 0) then
(bif inb v4 r2.1.2.2.1.length then
bif inb v4 r2.1.2.2.1.length then
let v12 : (ByteArray × (Int × (Int × (Int × (ByteArray × (ByteArray × (ByteArray × (Int × (Int × (Int × Unit)))))))))) := r2.1.2.2.1.getD v4.toNat ((⟨#[]⟩ : ByteArray), 0, 0, 0, (⟨#[]⟩ : ByteArray), (⟨#[]⟩ : ByteArray), (⟨#[]⟩ : ByteArray), 0, 0, 0, ())
Option.bind (law28_limits_C (x.2.2.2.2.2.1, x.2.2.2.2.2.2.1, ())) fun r13 =>
Option.bind (law28_change_C (v12, x.2.2.2.2.1, r13.1, x.2.2.2.2.2.2.2.1, ())) fun r14 =>
bif inb v4 r2.1.2.2.1.length then
bif inb v4 r2.1.2.2.1.length then
some (((), ()), ((r2.1.1, r2.1.2.1, (), ()), ()), r2.1.2.2.1.set v4.toNat (r14.1.1, r14.1.2.1, r14.1.2.2.1, r14.1.2.2.2.1, r14.1.2.2.2.2.1, r14.1.2.2.2.2.2.1, r14.1.2.2.2.2.2.2.1, r14.1.2.2.2.2.2.2.2.1, r14.1.2.2.2.2.2.2.2.2.1, r14.1.2.2.2.2.2.2.2.2.2.1, ()), ())
else none
else none
else none
else none)
else
some (((), ()), ((r2.1.1, r2.1.2.1, (), ()), ()), r2.1.2.2.1, ())) fun s5 =>
Option.bind (event_Pack_C (1, (s5.2.1.1.1, s5.2.1.1.2.1, s5.2.2.1, s5.2.1.1.2.2.2), ())) fun r15 =>
Option.bind (ref28_Pack_C (1, (s5.2.1.1.1, s5.2.1.1.2.1, s5.2.2.1, s5.2.1.1.2.2.2), ())) fun r16 =>
Option.bind (event_CheckBatch_C ((s5.2.1.1.1, s5.2.1.1.2.1, s5.2.2.1, s5.2.1.1.2.2.2), ())) fun r17 =>
Option.bind (ref28_CheckBatch_C ((s5.2.1.1.1, s5.2.1.1.2.1, s5.2.2.1, s5.2.1.1.2.2.2), ())) fun r18 =>
some ((bif (bif r17.1 == r18.1 then r15.1.2.1 == r16.1.2.1 else false) then seq (strOf r15.1.1) (strOf r16.1.1) else false), ())
else none
def law28_EventBatchSpoilt_C : (List Int × (Int × (Int × (Int × (Int × (Int × (Int × (ByteArray × Unit)))))))) → Option (Bool × Unit) := fun x => law28_EventBatchSpoilt_F (100) x
/-- flagstone/event.Less -/
def event_Less_F (fuel : Nat) : ((ByteArray × (Int × (Int × (Int × (ByteArray × (ByteArray × (ByteArray × (Int × (Int × (Int × Unit)))))))))) × ((ByteArray × (Int × (Int × (Int × (ByteArray × (ByteArray × (ByteArray × (Int × (Int × (Int × Unit)))))))))) × Unit)) → Option (Bool × Unit) := fun x =>
bif x.1.2.2.2.1 != x.2.1.2.2.2.1 then
(some (decide (x.1.2.2.2.1 < x.2.1.2.2.2.1), ()))
else
bif !seq x.1.1 x.2.1.1 then
(some (slt x.1.1 x.2.1.1, ()))
else
some (decide (x.1.2.1 < x.2.1.2.1), ())
def event_Less_C : ((ByteArray × (Int × (Int × (Int × (ByteArray × (ByteArray × (ByteArray × (Int × (Int × (Int × Unit)))))))))) × ((ByteArray × (Int × (Int × (Int × (ByteArray × (ByteArray × (ByteArray × (Int × (Int × (Int × Unit)))))))))) × Unit)) → Option (Bool × Unit) := fun x => event_Less_F 0 x
/-- flagstone/flagstoneref28.Less -/
def ref28_Less_F (fuel : Nat) : ((ByteArray × (Int × (Int × (Int × (ByteArray × (ByteArray × (ByteArray × (Int × (Int × (Int × Unit)))))))))) × ((ByteArray × (Int × (Int × (Int × (ByteArray × (ByteArray × (ByteArray × (Int × (Int × (Int × Unit)))))))))) × Unit)) → Option (Bool × Unit) := fun x =>
bif x.1.2.2.2.1 != x.2.1.2.2.2.1 then
(some (decide (x.1.2.2.2.1 < x.2.1.2.2.2.1), ()))
else
bif !seq x.1.1 x.2.1.1 then
(some (slt x.1.1 x.2.1.1, ()))
else
some (decide (x.1.2.1 < x.2.1.2.1), ())
def ref28_Less_C : ((ByteArray × (Int × (Int × (Int × (ByteArray × (ByteArray × (ByteArray × (Int × (Int × (Int × Unit)))))))))) × ((ByteArray × (Int × (Int × (Int × (ByteArray × (ByteArray × (ByteArray × (Int × (Int × (Int × Unit)))))))))) × Unit)) → Option (Bool × Unit) := fun x => ref28_Less_F 0 x
/-- flagstone/flagstonelaw28.EventOrders -/
def law28_EventOrders_F (fuel : Nat) : ((ByteArray × (Int × (Int × (Int × (ByteArray × (ByteArray × (ByteArray × (Int × (Int × (Int × Unit)))))))))) × ((ByteArray × (Int × (Int × (Int × (ByteArray × (ByteArray × (ByteArray × (Int × (Int × (Int × Unit)))))))))) × ((ByteArray × (Int × (Int × (Int × (ByteArray × (ByteArray × (ByteArray × (Int × (Int × (Int × Unit)))))))))) × (Int × Unit)))) → Option (Bool × Unit) := fun x =>
Option.bind (law28_awake_C ()) fun r1 =>
bif !r1.1 then
(some (false, ()))
else
bif (Int.tmod x.2.2.2.1 2) == 1 then
(bif (Int.tmod (IntKind.wrap .u8 (Int.tdiv x.2.2.2.1 2)) 2) == 1 then
(Option.bind (event_Less_C (x.1, (x.1.1, x.2.1.2.1, x.2.1.2.2.1, x.1.2.2.2.1, x.2.1.2.2.2.2), ())) fun r2 =>
Option.bind (ref28_Less_C (x.1, (x.1.1, x.2.1.2.1, x.2.1.2.2.1, x.1.2.2.2.1, x.2.1.2.2.2.2), ())) fun r3 =>
Option.bind (bif !(!boolEq r2.1 r3.1) then event_Less_C ((x.1.1, x.2.1.2.1, x.2.1.2.2.1, x.1.2.2.2.1, x.2.1.2.2.2.2), (x.1.1, x.2.2.1.2.1, x.2.2.1.2.2.1, x.1.2.2.2.1, x.2.2.1.2.2.2.2), ()) else some (false, ())) fun r4 =>
Option.bind (bif !(!boolEq r2.1 r3.1) then ref28_Less_C ((x.1.1, x.2.1.2.1, x.2.1.2.2.1, x.1.2.2.2.1, x.2.1.2.2.2.2), (x.1.1, x.2.2.1.2.1, x.2.2.1.2.2.1, x.1.2.2.2.1, x.2.2.1.2.2.2.2), ()) else some (false, ())) fun r5 =>
Option.bind (bif !(bif !boolEq r2.1 r3.1 then true else !boolEq r4.1 r5.1) then event_Less_C (x.1, x.1, ()) else some (false, ())) fun r6 =>
bif (bif (bif !boolEq r2.1 r3.1 then true else !boolEq r4.1 r5.1) then true else r6.1) then
(some (false, ()))
else
Option.bind (event_Less_C (x.1, (x.1.1, x.2.1.2.1, x.2.1.2.2.1, x.1.2.2.2.1, x.2.1.2.2.2.2), ())) fun r7 =>
Option.bind (event_Less_C ((x.1.1, x.2.1.2.1, x.2.1.2.2.1, x.1.2.2.2.1, x.2.1.2.2.2.2), x.1, ())) fun r8 =>
bif boolEq (bif (bif x.1.2.2.2.1 == x.1.2.2.2.1 then seq x.1.1 x.1.1 else false) then x.1.2.1 == x.2.1.2.1 else false) (!boolEq r7.1 r8.1) then
(some (false, ()))
else
Option.bind (event_Less_C (x.1, (x.1.1, x.2.1.2.1, x.2.1.2.2.1, x.1.2.2.2.1, x.2.1.2.2.2.2), ())) fun r9 =>
Option.bind (bif r9.1 then event_Less_C ((x.1.1, x.2.1.2.1, x.2.1.2.2.1, x.1.2.2.2.1, x.2.1.2.2.2.2), (x.1.1, x.2.2.1.2.1, x.2.2.1.2.2.1, x.1.2.2.2.1, x.2.2.1.2.2.2.2), ()) else some (false, ())) fun r10 =>
Option.bind (bif !(!(bif r9.1 then r10.1 else false)) then event_Less_C (x.1, (x.1.1, x.2.2.1.2.1, x.2.2.1.2.2.1, x.1.2.2.2.1, x.2.2.1.2.2.2.2), ()) else some (false, ())) fun r11 =>
some ((bif !(bif r9.1 then r10.1 else false) then true else r11.1), ()))
else
Option.bind (event_Less_C (x.1, (x.2.1.1, x.2.1.2.1, x.2.1.2.2.1, x.1.2.2.2.1, x.2.1.2.2.2.2), ())) fun r12 =>
Option.bind (ref28_Less_C (x.1, (x.2.1.1, x.2.1.2.1, x.2.1.2.2.1, x.1.2.2.2.1, x.2.1.2.2.2.2), ())) fun r13 =>
Option.bind (bif !(!boolEq r12.1 r13.1) then event_Less_C ((x.2.1.1, x.2.1.2.1, x.2.1.2.2.1, x.1.2.2.2.1, x.2.1.2.2.2.2), (x.2.2.1.1, x.2.2.1.2.1, x.2.2.1.2.2.1, x.1.2.2.2.1, x.2.2.1.2.2.2.2), ()) else some (false, ())) fun r14 =>
Option.bind (bif !(!boolEq r12.1 r13.1) then ref28_Less_C ((x.2.1.1, x.2.1.2.1, x.2.1.2.2.1, x.1.2.2.2.1, x.2.1.2.2.2.2), (x.2.2.1.1, x.2.2.1.2.1, x.2.2.1.2.2.1, x.1.2.2.2.1, x.2.2.1.2.2.2.2), ()) else some (false, ())) fun r15 =>
Option.bind (bif !(bif !boolEq r12.1 r13.1 then true else !boolEq r14.1 r15.1) then event_Less_C (x.1, x.1, ()) else some (false, ())) fun r16 =>
bif (bif (bif !boolEq r12.1 r13.1 then true else !boolEq r14.1 r15.1) then true else r16.1) then
(some (false, ()))
else
Option.bind (event_Less_C (x.1, (x.2.1.1, x.2.1.2.1, x.2.1.2.2.1, x.1.2.2.2.1, x.2.1.2.2.2.2), ())) fun r17 =>
Option.bind (event_Less_C ((x.2.1.1, x.2.1.2.1, x.2.1.2.2.1, x.1.2.2.2.1, x.2.1.2.2.2.2), x.1, ())) fun r18 =>
bif boolEq (bif (bif x.1.2.2.2.1 == x.1.2.2.2.1 then seq x.1.1 x.2.1.1 else false) then x.1.2.1 == x.2.1.2.1 else false) (!boolEq r17.1 r18.1) then
(some (false, ()))
else
Option.bind (event_Less_C (x.1, (x.2.1.1, x.2.1.2.1, x.2.1.2.2.1, x.1.2.2.2.1, x.2.1.2.2.2.2), ())) fun r19 =>
Option.bind (bif r19.1 then event_Less_C ((x.2.1.1, x.2.1.2.1, x.2.1.2.2.1, x.1.2.2.2.1, x.2.1.2.2.2.2), (x.2.2.1.1, x.2.2.1.2.1, x.2.2.1.2.2.1, x.1.2.2.2.1, x.2.2.1.2.2.2.2), ()) else some (false, ())) fun r20 =>
Option.bind (bif !(!(bif r19.1 then r20.1 else false)) then event_Less_C (x.1, (x.2.2.1.1, x.2.2.1.2.1, x.2.2.1.2.2.1, x.1.2.2.2.1, x.2.2.1.2.2.2.2), ()) else some (false, ())) fun r21 =>
some ((bif !(bif r19.1 then r20.1 else false) then true else r21.1), ()))
else
bif (Int.tmod (IntKind.wrap .u8 (Int.tdiv x.2.2.2.1 2)) 2) == 1 then
(Option.bind (event_Less_C (x.1, (x.1.1, x.2.1.2), ())) fun r22 =>
Option.bind (ref28_Less_C (x.1, (x.1.1, x.2.1.2), ())) fun r23 =>
Option.bind (bif !(!boolEq r22.1 r23.1) then event_Less_C ((x.1.1, x.2.1.2), (x.1.1, x.2.2.1.2), ()) else some (false, ())) fun r24 =>
Option.bind (bif !(!boolEq r22.1 r23.1) then ref28_Less_C ((x.1.1, x.2.1.2), (x.1.1, x.2.2.1.2), ()) else some (false, ())) fun r25 =>
Option.bind (bif !(bif !boolEq r22.1 r23.1 then true else !boolEq r24.1 r25.1) then event_Less_C (x.1, x.1, ()) else some (false, ())) fun r26 =>
bif (bif (bif !boolEq r22.1 r23.1 then true else !boolEq r24.1 r25.1) then true else r26.1) then
(some (false, ()))
else
Option.bind (event_Less_C (x.1, (x.1.1, x.2.1.2), ())) fun r27 =>
Option.bind (event_Less_C ((x.1.1, x.2.1.2), x.1, ())) fun r28 =>
bif boolEq (bif (bif x.1.2.2.2.1 == x.2.1.2.2.2.1 then seq x.1.1 x.1.1 else false) then x.1.2.1 == x.2.1.2.1 else false) (!boolEq r27.1 r28.1) then
(some (false, ()))
else
Option.bind (event_Less_C (x.1, (x.1.1, x.2.1.2), ())) fun r29 =>
Option.bind (bif r29.1 then event_Less_C ((x.1.1, x.2.1.2), (x.1.1, x.2.2.1.2), ()) else some (false, ())) fun r30 =>
Option.bind (bif !(!(bif r29.1 then r30.1 else false)) then event_Less_C (x.1, (x.1.1, x.2.2.1.2), ()) else some (false, ())) fun r31 =>
some ((bif !(bif r29.1 then r30.1 else false) then true else r31.1), ()))
else
Option.bind (event_Less_C (x.1, x.2.1, ())) fun r32 =>
Option.bind (ref28_Less_C (x.1, x.2.1, ())) fun r33 =>
Option.bind (bif !(!boolEq r32.1 r33.1) then event_Less_C (x.2.1, x.2.2.1, ()) else some (false, ())) fun r34 =>
Option.bind (bif !(!boolEq r32.1 r33.1) then ref28_Less_C (x.2.1, x.2.2.1, ()) else some (false, ())) fun r35 =>
Option.bind (bif !(bif !boolEq r32.1 r33.1 then true else !boolEq r34.1 r35.1) then event_Less_C (x.1, x.1, ()) else some (false, ())) fun r36 =>
bif (bif (bif !boolEq r32.1 r33.1 then true else !boolEq r34.1 r35.1) then true else r36.1) then
(some (false, ()))
else
Option.bind (event_Less_C (x.1, x.2.1, ())) fun r37 =>
Option.bind (event_Less_C (x.2.1, x.1, ())) fun r38 =>
bif boolEq (bif (bif x.1.2.2.2.1 == x.2.1.2.2.2.1 then seq x.1.1 x.2.1.1 else false) then x.1.2.1 == x.2.1.2.1 else false) (!boolEq r37.1 r38.1) then
(some (false, ()))
else
Option.bind (event_Less_C (x.1, x.2.1, ())) fun r39 =>
Option.bind (bif r39.1 then event_Less_C (x.2.1, x.2.2.1, ()) else some (false, ())) fun r40 =>
Option.bind (bif !(!(bif r39.1 then r40.1 else false)) then event_Less_C (x.1, x.2.2.1, ()) else some (false, ())) fun r41 =>
some ((bif !(bif r39.1 then r40.1 else false) then true else r41.1), ())
def law28_EventOrders_C : ((ByteArray × (Int × (Int × (Int × (ByteArray × (ByteArray × (ByteArray × (Int × (Int × (Int × Unit)))))))))) × ((ByteArray × (Int × (Int × (Int × (ByteArray × (ByteArray × (ByteArray × (Int × (Int × (Int × Unit)))))))))) × ((ByteArray × (Int × (Int × (Int × (ByteArray × (ByteArray × (ByteArray × (Int × (Int × (Int × Unit)))))))))) × (Int × Unit)))) → Option (Bool × Unit) := fun x => law28_EventOrders_F 0 x
/-- bytes.Equal -/
def bytes_Equal_F (fuel : Nat) : (List Int × (List Int × Unit)) → Option (Bool × Unit) := fun x =>
some (seq (strOf x.1) (strOf x.2.1), ())
def bytes_Equal_C : (List Int × (List Int × Unit)) → Option (Bool × Unit) := fun x => bytes_Equal_F 0 x
/-- flagstone/wire.New -/
def wire_New_F (fuel : Nat) : (List Int × Unit) → Option ((List Int × (Int × Unit)) × Unit) := fun x =>
Option.bind (wire_own_C (x.1, ([] : List Int), ())) fun r1 =>
some ((r1.1, 0, ()), ())
def wire_New_C : (List Int × Unit) → Option ((List Int × (Int × Unit)) × Unit) := fun x => wire_New_F 0 x
/-- (*flagstone/wire.Reader).Number -/
def wire_Reader_Number_F (fuel : Nat) : ((List Int × (Int × Unit)) × Unit) → Option (Int × ((List Int × (Int × Unit)) × Unit)) := fun x =>
bif x.1.2.1 != 0 then
(some (0, x.1, ()))
else
iter fuel (fun (self2 : ((Unit × (Int × (Int × Unit))) × (((List Int × (Int × Unit)) × Unit) × Unit)) → Option _) (x1 : ((Unit × (Int × (Int × Unit))) × (((List Int × (Int × Unit)) × Unit) × Unit))) =>
bif decide (x1.1.2.2.1 ≥ (x1.2.1.1.1.length : Int)) then
(some (0, (x1.2.1.1.1, 16, x1.2.1.1.2.2), ()))
else
bif inb x1.1.2.2.1 x1.2.1.1.1.length then
bif (bif x1.1.2.2.1 == 9 then decide ((x1.2.1.1.1.getD x1.1.2.2.1.toNat 0) > 1) else false) then
(some (0, (x1.2.1.1.1, 3, x1.2.1.1.2.2), ()))
else
let v3 : Int := IntKind.wrap .u64 (ibits .u8 0 (x1.2.1.1.1.getD x1.1.2.2.1.toNat 0) 127)
bif decide (0 ≤ IntKind.wrap .i64 (7 * x1.1.2.2.1)) then
let v4 : Int := ibits .u64 1 x1.1.2.1 (ishl .u64 v3 (IntKind.wrap .i64 (7 * x1.1.2.2.1)))
bif decide ((x1.2.1.1.1.getD x1.1.2.2.1.toNat 0) ≥ 128) then
(self2 (((), v4, IntKind.wrap .i64 (x1.1.2.2.1 + 1), ()), (x1.2.1.1, ()), ()))
else
bif (bif (x1.2.1.1.1.getD x1.1.2.2.1.toNat 0) == 0 then decide (x1.1.2.2.1 > 0) else false) then
(some (0, (x1.2.1.1.1, 1, x1.2.1.1.2.2), ()))
else
bif cutOk (some (IntKind.wrap .i64 (x1.1.2.2.1 + 1))) none none x1.2.1.1.1.length then
let v5 : Int := ibits .i64 2 (IntKind.wrap .i64 (ishr .u64 v4 1)) (IntKind.wrap .i64 (0 - (IntKind.wrap .i64 (ibits .u64 0 v4 1))))
some (v5, (cutL x1.2.1.1.1 (some (IntKind.wrap .i64 (x1.1.2.2.1 + 1))) none, x1.2.1.1.2), ())
else none
else none
else none) (((), 0, 0, ()), (x.1, ()), ())
def wire_Reader_Number_C : ((List Int × (Int × Unit)) × Unit) → Option (Int × ((List Int × (Int × Unit)) × Unit)) := fun x => wire_Reader_Number_F (100) x
/-- (*flagstone/wire.Reader).Fail -/
def wire_Reader_Fail_F (fuel : Nat) : ((List Int × (Int × Unit)) × (Int × Unit)) → Option (Unit × ((List Int × (Int × Unit)) × Unit)) := fun x =>
bif x.1.2.1 == 0 then
(some ((), (x.1.1, x.2.1, x.1.2.2), ()))
else
some ((), x.1, ())
def wire_Reader_Fail_C : ((List Int × (Int × Unit)) × (Int × Unit)) → Option (Unit × ((List Int × (Int × Unit)) × Unit)) := fun x => wire_Reader_Fail_F 0 x
/-- (*flagstone/wire.Reader).length -/
def wire_Reader_length_F (fuel : Nat) : ((List Int × (Int × Unit)) × (Int × (Int × Unit))) → Option (Int × ((List Int × (Int × Unit)) × Unit)) := fun x =>
Option.bind (wire_Reader_Number_C (x.1, ())) fun r1 =>
Option.bind (α := ((Unit × (Int × Unit)) × (((List Int × (Int × Unit)) × Unit) × Unit))) (bif decide (r1.1 < 0) then
(Option.bind (wire_Reader_Fail_C (r1.2.1, 3, ())) fun r3 =>
some (((), r1.1, ()), (r3.2.1, ()), ()))
else
bif decide (r1.1 > x.2.1) then
(Option.bind (wire_Reader_Fail_C (r1.2.1, x.2.2.1, ())) fun r4 =>
some (((), r1.1, ()), (r4.2.1, ()), ()))
else
some (((), r1.1, ()), (r1.2.1, ()), ())) fun s2 =>
bif s2.2.1.1.2.1 != 0 then
(some (0, s2.2.1.1, ()))
else
some (s2.1.2.1, s2.2.1.1, ())
def wire_Reader_length_C : ((List Int × (Int × Unit)) × (Int × (Int × Unit))) → Option (Int × ((List Int × (Int × Unit)) × Unit)) := fun x => wire_Reader_length_F 0 x
/-- (*flagstone/wire.Reader).take -/
def wire_Reader_take_F (fuel : Nat) : ((List Int × (Int × Unit)) × (Int × Unit)) → Option (List Int × ((List Int × (Int × Unit)) × Unit)) := fun x =>
bif (bif x.1.2.1 == 0 then decide (x.2.1 > (x.1.1.length : Int)) else false) then
(some (([] : List Int), (x.1.1, 16, x.1.2.2), ()))
else
bif x.1.2.1 != 0 then
(some (([] : List Int), x.1, ()))
else
bif cutOk none (some x.2.1) (some x.2.1) x.1.1.length then
bif cutOk (some x.2.1) none none x.1.1.length then
some (cutL x.1.1 none (some x.2.1), (cutL x.1.1 (some x.2.1) none, x.1.2), ())
else none
else none
def wire_Reader_take_C : ((List Int × (Int × Unit)) × (Int × Unit)) → Option (List Int × ((List Int × (Int × Unit)) × Unit)) := fun x => wire_Reader_take_F 0 x
/-- (*flagstone/wire.Reader).Text -/
def wire_Reader_Text_F (fuel : Nat) : ((List Int × (Int × Unit)) × (Int × Unit)) → Option (ByteArray × ((List Int × (Int × Unit)) × Unit)) := fun x =>
Option.bind (wire_Reader_length_C (x.1, x.2.1, 4, ())) fun r1 =>
Option.bind (wire_Reader_take_C (r1.2.1, r1.1, ())) fun r2 =>
some (strOf r2.1, r2.2.1, ())
def wire_Reader_Text_C : ((List Int × (Int × Unit)) × (Int × Unit)) → Option (ByteArray × ((List Int × (Int × Unit)) × Unit)) := fun x => wire_Reader_Text_F 0 x
/-- flagstone/event.Unpack$1 -/
def event_Unpack_1_F (fuel : Nat) : ((List Int × (Int × Unit)) × Unit) → Option (ByteArray × ((List Int × (Int × Unit)) × Unit)) := fun x =>
Option.bind (wire_Reader_Text_C (x.1, 32, ())) fun r1 =>
some (r1.1, r1.2.1, ())
def event_Unpack_1_C : ((List Int × (Int × Unit)) × Unit) → Option (ByteArray × ((List Int × (Int × Unit)) × Unit)) := fun x => event_Unpack_1_F 0 x
/-- (*flagstone/wire.Reader).Count -/
def wire_Reader_Count_F (fuel : Nat) : ((List Int × (Int × Unit)) × (Int × Unit)) → Option (Int × ((List Int × (Int × Unit)) × Unit)) := fun x =>
Option.bind (wire_Reader_length_C (x.1, x.2.1, 5, ())) fun r1 =>
some (r1.1, r1.2.1, ())
def wire_Reader_Count_C : ((List Int × (Int × Unit)) × (Int × Unit)) → Option (Int × ((List Int × (Int × Unit)) × Unit)) := fun x => wire_Reader_Count_F 0 x
/-- (*flagstone/wire.Reader).End -/
def wire_Reader_End_F (fuel : Nat) : ((List Int × (Int × Unit)) × Unit) → Option (Int × ((List Int × (Int × Unit)) × Unit)) := fun x =>
bif (bif x.1.2.1 == 0 then decide ((x.1.1.length : Int) > 0) else false) then
(some (17, x.1, ()))
else
some (x.1.2.1, x.1, ())
def wire_Reader_End_C : ((List Int × (Int × Unit)) × Unit) → Option (Int × ((List Int × (Int × Unit)) × Unit)) := fun x => wire_Reader_End_F 0 x
/-- flagstone/event.Unpack -/
def event_Unpack_F (fuel : Nat) : (Int × (List Int × Unit)) → Option (((ByteArray × (Int × (List (ByteArray × (Int × (Int × (Int × (ByteArray × (ByteArray × (ByteArray × (Int × (Int × (Int × Unit)))))))))) × Unit))) × (Int × Unit)) × Unit) := fun x =>
bif decide ((x.2.1.length : Int) < 8) then
(some ((((⟨#[]⟩ : ByteArray), 0, ([] : List (ByteArray × (Int × (Int × (Int × (ByteArray × (ByteArray × (ByteArray × (Int × (Int × (Int × Unit))))))))))), ()), 16, ()), ()))
else
bif cutOk none (some (IntKind.wrap .i64 ((x.2.1.length : Int) - 8))) none x.2.1.length then
bif cutOk (some (IntKind.wrap .i64 ((x.2.1.length : Int) - 8))) none none x.2.1.length then
Option.bind (digest_Mac_C (x.1, 100, [cutL x.2.1 none (some (IntKind.wrap .i64 ((x.2.1.length : Int) - 8)))], ())) fun r1 =>
Option.bind (wire_PutWord_C (([] : List Int), r1.1, ())) fun r2 =>
Option.bind (bytes_Equal_C (cutL x.2.1 (some (IntKind.wrap .i64 ((x.2.1.length : Int) - 8))) none, r2.1, ())) fun r3 =>
bif !r3.1 then
(some ((((⟨#[]⟩ : ByteArray), 0, ([] : List (ByteArray × (Int × (Int × (Int × (ByteArray × (ByteArray × (ByteArray × (Int × (Int × (Int × Unit))))))))))), ()), 20, ()), ()))
else
Option.bind (wire_New_C (cutL x.2.1 none (some (IntKind.wrap .i64 ((x.2.1.length : Int) - 8))), ())) fun r4 =>
Option.bind (event_Unpack_1_C (r4.1, ())) fun r5 =>
Option.bind (wire_Reader_Number_C (r5.2.1, ())) fun r6 =>
Option.bind (wire_Reader_Count_C (r6.2.1, 32, ())) fun r7 =>
Option.bind (α := ((Unit × (Unit × (Unit × Unit))) × (((ByteArray × (Int × (Unit × Unit))) × (Unit × ((ByteArray × (Int × (Unit × Unit))) × ((List Int × (Int × Unit)) × Unit)))) × (List (ByteArray × (Int × (Int × (Int × (ByteArray × (ByteArray × (ByteArray × (Int × (Int × (Int × Unit)))))))))) × Unit)))) (iter fuel (fun (self10 : ((Unit × (Unit × (Unit × ((Unit × Unit) × (Unit × (Int × Unit)))))) × (((ByteArray × (Int × (Unit × Unit))) × (Unit × ((ByteArray × (Int × (Unit × Unit))) × ((List Int × (Int × Unit)) × Unit)))) × (List (ByteArray × (Int × (Int × (Int × (ByteArray × (ByteArray × (ByteArray × (Int × (Int × (Int × Unit)))))))))) × Unit))) → Option _) (x9 : ((Unit × (Unit × (Unit × ((Unit × Unit) × (Unit × (Int × Unit)))))) × (((ByteArray × (Int × (Unit × Unit))) × (Unit × ((ByteArray × (Int × (Unit × Unit))) × ((List Int × (Int × Unit)) × Unit)))) × (List (ByteArray × (Int × (Int × (Int × (ByteArray × (ByteArray × (ByteArray × (Int × (Int × (Int × Unit)))))))))) × Unit)))) =>
bif decide (x9.1.2.2.2.2.2.1 > 0) then
(Option.bind (wire_Reader_Number_C (x9.2.1.2.2.2.1, ())) fun r11 =>
Option.bind (wire_Reader_Number_C (r11.2.1, ())) fun r12 =>
Option.bind (wire_Reader_Number_C (r12.2.1, ())) fun r13 =>
Option.bind (event_Unpack_1_C (r13.2.1, ())) fun r14 =>
Option.bind (event_Unpack_1_C (r14.2.1, ())) fun r15 =>
Option.bind (event_Unpack_1_C (r15.2.1, ())) fun r16 =>
Option.bind (wire_Reader_Number_C (r16.2.1, ())) fun r17 =>
Option.bind (wire_Reader_Number_C (r17.2.1, ())) fun r18 =>
Option.bind (wire_Reader_Number_C (r18.2.1, ())) fun r19 =>
bif roomy x9.2.2.1.length ([(x9.2.1.2.2.1.1, r11.1, r12.1, r13.1, r14.1, r15.1, r16.1, r17.1, r18.1, r19.1, ())].length) then
self10 (((), (), (), ((), x9.1.2.2.2.1.2), (), IntKind.wrap .i64 (x9.1.2.2.2.2.2.1 - 1), ()), (x9.2.1.1, (), (x9.2.1.2.2.1.1, x9.2.1.2.2.1.2.1, (), x9.2.1.2.2.1.2.2.2), r19.2.1, ()), x9.2.2.1 ++ [(x9.2.1.2.2.1.1, r11.1, r12.1, r13.1, r14.1, r15.1, r16.1, r17.1, r18.1, r19.1, ())], ())
else none)
else
some (((), (), (), ()), (x9.2.1.1, (), (x9.2.1.2.2.1.1, x9.2.1.2.2.1.2.1, (), x9.2.1.2.2.1.2.2.2), x9.2.1.2.2.2.1, ()), x9.2.2.1, ())) (((), (), (), ((), ()), (), r7.1, ()), (((⟨#[]⟩ : ByteArray), 0, (), ()), (), (r5.1, r6.1, (), ()), r7.2.1, ()), ([] : List (ByteArray × (Int × (Int × (Int × (ByteArray × (ByteArray × (ByteArray × (Int × (Int × (Int × Unit))))))))))), ())) fun s8 =>
Option.bind (wire_Reader_End_C (s8.2.1.2.2.2.1, ())) fun r20 =>
bif r20.1 != 0 then
(some ((((⟨#[]⟩ : ByteArray), 0, ([] : List (ByteArray × (Int × (Int × (Int × (ByteArray × (ByteArray × (ByteArray × (Int × (Int × (Int × Unit))))))))))), ()), r20.1, ()), ()))
else
Option.bind (event_CheckBatch_C ((s8.2.1.2.2.1.1, s8.2.1.2.2.1.2.1, s8.2.2.1, s8.2.1.2.2.1.2.2.2), ())) fun r21 =>
bif r21.1 != 0 then
(some ((((⟨#[]⟩ : ByteArray), 0, ([] : List (ByteArray × (Int × (Int × (Int × (ByteArray × (ByteArray × (ByteArray × (Int × (Int × (Int × Unit))))))))))), ()), r21.1, ()), ()))
else
some (((s8.2.1.2.2.1.1, s8.2.1.2.2.1.2.1, s8.2.2.1, s8.2.1.2.2.1.2.2.2), 0, ()), ())
else none
else none
def event_Unpack_C : (Int × (List Int × Unit)) → Option (((ByteArray × (Int × (List (ByteArray × (Int × (Int × (Int × (ByteArray × (ByteArray × (ByteArray × (Int × (Int × (Int × Unit)))))))))) × Unit))) × (Int × Unit)) × Unit) := fun x => event_Unpack_F (100) x
/-- flagstone/flagstoneref4.New -/
def ref4_New_F (fuel : Nat) : (List Int × Unit) → Option ((List Int × (Int × (Int × Unit))) × Unit) := fun x =>
some ((x.1, 0, 0, ()), ())
def ref4_New_C : (List Int × Unit) → Option ((List Int × (Int × (Int × Unit))) × Unit) := fun x => ref4_New_F 0 x
/-- (*flagstone/flagstoneref4.Reader).Fail -/
def ref4_Reader_Fail_F (fuel : Nat) : ((List Int × (Int × (Int × Unit))) × (Int × Unit)) → Option (Unit × ((List Int × (Int × (Int × Unit))) × Unit)) := fun x =>
bif x.1.2.2.1 == 0 then
(some ((), (x.1.1, x.1.2.1, x.2.1, x.1.2.2.2), ()))
else
some ((), x.1, ())
def ref4_Reader_Fail_C : ((List Int × (Int × (Int × Unit))) × (Int × Unit)) → Option (Unit × ((List Int × (Int × (Int × Unit))) × Unit)) := fun x => ref4_Reader_Fail_F 0 x
/-- (*flagstone/flagstoneref4.Reader).Number -/
def ref4_Reader_Number_F (fuel : Nat) : ((List Int × (Int × (Int × Unit))) × Unit) → Option (Int × ((List Int × (Int × (Int × Unit))) × Unit)) := fun x =>
Option.bind (α := (Unit × (((List Int × (Int × (Int × Unit))) × Unit) × Unit)) ⊕ (Int × ((List Int × (Int × (Int × Unit))) × Unit))) (iter fuel (fun (self3 : ((Unit × (Int × (Int × Unit))) × (((List Int × (Int × (Int × Unit))) × Unit) × Unit)) → Option _) (x2 : ((Unit × (Int × (Int × Unit))) × (((List Int × (Int × (Int × Unit))) × Unit) × Unit))) =>
bif x2.2.1.1.2.2.1 == 0 then
(let v4 : Bool := decide ((IntKind.wrap .i64 (x2.2.1.1.2.1 + x2.1.2.2.1)) ≥ (x2.2.1.1.1.length : Int))
bif v4 then
(Option.bind (ref4_Reader_Fail_C (x2.2.1.1, 16, ())) fun r5 =>
Option.map Sum.inr (some (0, r5.2.1, ())))
else
bif inb (IntKind.wrap .i64 (x2.2.1.1.2.1 + x2.1.2.2.1)) x2.2.1.1.1.length then
let v6 : Int := x2.2.1.1.1.getD (IntKind.wrap .i64 (x2.2.1.1.2.1 + x2.1.2.2.1)).toNat 0
bif (bif x2.1.2.2.1 == 9 then decide (v6 > 1) else false) then
(Option.bind (ref4_Reader_Fail_C (x2.2.1.1, 3, ())) fun r7 =>
Option.map Sum.inr (some (0, r7.2.1, ())))
else
bif decide (0 ≤ IntKind.wrap .u64 (IntKind.wrap .i64 (7 * x2.1.2.2.1))) then
let v8 : Int := ishl .u64 (IntKind.wrap .u64 (ibits .u8 0 v6 127)) (IntKind.wrap .u64 (IntKind.wrap .i64 (7 * x2.1.2.2.1)))
bif decide (v6 > 127) then
(self3 (((), ibits .u64 1 x2.1.2.1 v8, IntKind.wrap .i64 (x2.1.2.2.1 + 1), ()), (x2.2.1.1, ()), ()))
else
bif (bif v6 == 0 then decide (x2.1.2.2.1 > 0) else false) then
(Option.bind (ref4_Reader_Fail_C (x2.2.1.1, 1, ())) fun r9 =>
Option.map Sum.inr (some (0, r9.2.1, ())))
else
let v10 : Int := IntKind.wrap .i64 (x2.2.1.1.2.1 + (IntKind.wrap .i64 (x2.1.2.2.1 + 1)))
bif (ibits .u64 0 (ibits .u64 1 x2.1.2.1 v8) 1) == 1 then
(let v11 : Int := ibits .u64 2 18446744073709551615 (ishr .u64 (ibits .u64 1 x2.1.2.1 v8) 1)
Option.map Sum.inr (some (IntKind.wrap .i64 (v11), (x2.2.1.1.1, v10, x2.2.1.1.2.2), ())))
else
Option.map Sum.inr (some (IntKind.wrap .i64 (ishr .u64 (ibits .u64 1 x2.1.2.1 v8) 1), (x2.2.1.1.1, v10, x2.2.1.1.2.2), ()))
else none
else none)
else
some (Sum.inl ((), (x2.2.1.1, ()), ()))) (((), 0, 0, ()), (x.1, ()), ())) fun s1 => match s1 with
| .inl s1 => (some (0, s1.2.1.1, ()))
| .inr s12 => some s12
def ref4_Reader_Number_C : ((List Int × (Int × (Int × Unit))) × Unit) → Option (Int × ((List Int × (Int × (Int × Unit))) × Unit)) := fun x => ref4_Reader_Number_F (100) x
/-- (*flagstone/flagstoneref4.Reader).Text -/
def ref4_Reader_Text_F (fuel : Nat) : ((List Int × (Int × (Int × Unit))) × (Int × Unit)) → Option (ByteArray × ((List Int × (Int × (Int × Unit))) × Unit)) := fun x =>
Option.bind (ref4_Reader_Number_C (x.1, ())) fun r1 =>
Option.bind (α := ((Unit × (Int × Unit)) × (((List Int × (Int × (Int × Unit))) × Unit) × Unit)) ⊕ (ByteArray × ((List Int × (Int × (Int × Unit))) × Unit))) (bif r1.2.1.2.2.1 != 0 then
(some (Sum.inl (((), x.1.2.1, ()), (r1.2.1, ()), ())))
else
bif decide (r1.1 < 0) then
(Option.bind (ref4_Reader_Fail_C (r1.2.1, 3, ())) fun r3 =>
some (Sum.inl (((), x.1.2.1, ()), (r3.2.1, ()), ())))
else
bif decide (r1.1 > x.2.1) then
(Option.bind (ref4_Reader_Fail_C (r1.2.1, 4, ())) fun r4 =>
some (Sum.inl (((), x.1.2.1, ()), (r4.2.1, ()), ())))
else
let v5 : Bool := decide (r1.1 > (IntKind.wrap .i64 ((r1.2.1.1.length : Int) - r1.2.1.2.1)))
bif v5 then
(Option.bind (ref4_Reader_Fail_C (r1.2.1, 16, ())) fun r6 =>
some (Sum.inl (((), x.1.2.1, ()), (r6.2.1, ()), ())))
else
bif cutOk (some (IntKind.wrap .i64 ((IntKind.wrap .i64 (r1.2.1.2.1 + r1.1)) - r1.1))) (some (IntKind.wrap .i64 (r1.2.1.2.1 + r1.1))) none r1.2.1.1.length then
let v7 : List Int := cutL r1.2.1.1 (some (IntKind.wrap .i64 ((IntKind.wrap .i64 (r1.2.1.2.1 + r1.1)) - r1.1))) (some (IntKind.wrap .i64 (r1.2.1.2.1 + r1.1)))
Option.map Sum.inr (some (strOf v7, (r1.2.1.1, IntKind.wrap .i64 (r1.2.1.2.1 + r1.1), r1.2.1.2.2), ()))
else none) fun s2 => match s2 with
| .inl s2 => (some ((⟨#[]⟩ : ByteArray), (s2.2.1.1.1, s2.1.2.1, s2.2.1.1.2.2), ()))
| .inr s8 => some s8
def ref4_Reader_Text_C : ((List Int × (Int × (Int × Unit))) × (Int × Unit)) → Option (ByteArray × ((List Int × (Int × (Int × Unit))) × Unit)) := fun x => ref4_Reader_Text_F 0 x
/-- (*flagstone/flagstoneref4.Reader).Count -/
def ref4_Reader_Count_F (fuel : Nat) : ((List Int × (Int × (Int × Unit))) × (Int × Unit)) → Option (Int × ((List Int × (Int × (Int × Unit))) × Unit)) := fun x =>
Option.bind (ref4_Reader_Number_C (x.1, ())) fun r1 =>
bif (bif r1.2.1.2.2.1 == 0 then decide (r1.1 < 0) else false) then
(Option.bind (ref4_Reader_Fail_C (r1.2.1, 3, ())) fun r2 =>
bif (bif r2.2.1.2.2.1 == 0 then decide (r1.1 > x.2.1) else false) then
(Option.bind (ref4_Reader_Fail_C (r2.2.1, 5, ())) fun r3 =>
bif r3.2.1.2.2.1 != 0 then
(some (0, r3.2.1, ()))
else
some (r1.1, r3.2.1, ()))
else
bif r2.2.1.2.2.1 != 0 then
(some (0, r2.2.1, ()))
else
some (r1.1, r2.2.1, ()))
else
bif (bif r1.2.1.2.2.1 == 0 then decide (r1.1 > x.2.1) else false) then
(Option.bind (ref4_Reader_Fail_C (r1.2.1, 5, ())) fun r4 =>
bif r4.2.1.2.2.1 != 0 then
(some (0, r4.2.1, ()))
else
some (r1.1, r4.2.1, ()))
else
bif r1.2.1.2.2.1 != 0 then
(some (0, r1.2.1, ()))
else
some (r1.1, r1.2.1, ())
def ref4_Reader_Count_C : ((List Int × (Int × (Int × Unit))) × (Int × Unit)) → Option (Int × ((List Int × (Int × (Int × Unit))) × Unit)) := fun x => ref4_Reader_Count_F 0 x
/-- (*flagstone/flagstoneref4.Reader).End -/
def ref4_Reader_End_F (fuel : Nat) : ((List Int × (Int × (Int × Unit))) × Unit) → Option (Int × ((List Int × (Int × (Int × Unit))) × Unit)) := fun x =>
bif (bif x.1.2.2.1 == 0 then decide (x.1.2.1 < (x.1.1.length : Int)) else false) then
(some (17, x.1, ()))
else
some (x.1.2.2.1, x.1, ())
def ref4_Reader_End_C : ((List Int × (Int × (Int × Unit))) × Unit) → Option (Int × ((List Int × (Int × (Int × Unit))) × Unit)) := fun x => ref4_Reader_End_F 0 x
/-- flagstone/flagstoneref28.Unpack -/
def ref28_Unpack_F (fuel : Nat) : (Int × (List Int × Unit)) → Option (((ByteArray × (Int × (List (ByteArray × (Int × (Int × (Int × (ByteArray × (ByteArray × (ByteArray × (Int × (Int × (Int × Unit)))))))))) × Unit))) × (Int × Unit)) × Unit) := fun x =>
bif decide ((x.2.1.length : Int) < 8) then
(some ((((⟨#[]⟩ : ByteArray), 0, ([] : List (ByteArray × (Int × (Int × (Int × (ByteArray × (ByteArray × (ByteArray × (Int × (Int × (Int × Unit))))))))))), ()), 16, ()), ()))
else
bif cutOk none (some (IntKind.wrap .i64 ((x.2.1.length : Int) - 8))) none x.2.1.length then
Option.bind (ref2_Mac_C (x.1, 100, [cutL x.2.1 none (some (IntKind.wrap .i64 ((x.2.1.length : Int) - 8)))], ())) fun r1 =>
Option.bind (ref4_PutWord_C (([] : List Int), r1.1, ())) fun r2 =>
bif cutOk (some (IntKind.wrap .i64 ((x.2.1.length : Int) - 8))) none none x.2.1.length then
bif !seq (strOf r2.1) (strOf (cutL x.2.1 (some (IntKind.wrap .i64 ((x.2.1.length : Int) - 8))) none)) then
(some ((((⟨#[]⟩ : ByteArray), 0, ([] : List (ByteArray × (Int × (Int × (Int × (ByteArray × (ByteArray × (ByteArray × (Int × (Int × (Int × Unit))))))))))), ()), 20, ()), ()))
else
bif cutOk none (some (IntKind.wrap .i64 ((x.2.1.length : Int) - 8))) none x.2.1.length then
Option.bind (ref4_New_C (cutL x.2.1 none (some (IntKind.wrap .i64 ((x.2.1.length : Int) - 8))), ())) fun r3 =>
Option.bind (ref4_Reader_Text_C (r3.1, 32, ())) fun r4 =>
Option.bind (ref4_Reader_Number_C (r4.2.1, ())) fun r5 =>
Option.bind (ref4_Reader_Count_C (r5.2.1, 32, ())) fun r6 =>
Option.bind (α := ((Unit × (Unit × (Unit × Unit))) × (((ByteArray × (Int × (Unit × Unit))) × ((ByteArray × (Int × (Unit × Unit))) × ((List Int × (Int × (Int × Unit))) × Unit))) × (List (ByteArray × (Int × (Int × (Int × (ByteArray × (ByteArray × (ByteArray × (Int × (Int × (Int × Unit)))))))))) × Unit)))) (iter fuel (fun (self9 : ((Unit × (Unit × (Unit × (Int × (Int × Unit))))) × (((ByteArray × (Int × (Unit × Unit))) × ((ByteArray × (Int × (Unit × Unit))) × ((List Int × (Int × (Int × Unit))) × Unit))) × (List (ByteArray × (Int × (Int × (Int × (ByteArray × (ByteArray × (ByteArray × (Int × (Int × (Int × Unit)))))))))) × Unit))) → Option _) (x8 : ((Unit × (Unit × (Unit × (Int × (Int × Unit))))) × (((ByteArray × (Int × (Unit × Unit))) × ((ByteArray × (Int × (Unit × Unit))) × ((List Int × (Int × (Int × Unit))) × Unit))) × (List (ByteArray × (Int × (Int × (Int × (ByteArray × (ByteArray × (ByteArray × (Int × (Int × (Int × Unit)))))))))) × Unit)))) =>
bif decide (x8.1.2.2.2.2.1 < x8.1.2.2.2.1) then
(Option.bind (ref4_Reader_Number_C (x8.2.1.2.2.1, ())) fun r10 =>
Option.bind (ref4_Reader_Number_C (r10.2.1, ())) fun r11 =>
Option.bind (ref4_Reader_Number_C (r11.2.1, ())) fun r12 =>
Option.bind (ref4_Reader_Text_C (r12.2.1, 32, ())) fun r13 =>
Option.bind (ref4_Reader_Text_C (r13.2.1, 32, ())) fun r14 =>
Option.bind (ref4_Reader_Text_C (r14.2.1, 32, ())) fun r15 =>
Option.bind (ref4_Reader_Number_C (r15.2.1, ())) fun r16 =>
Option.bind (ref4_Reader_Number_C (r16.2.1, ())) fun r17 =>
Option.bind (ref4_Reader_Number_C (r17.2.1, ())) fun r18 =>
bif roomy x8.2.2.1.length ([(x8.2.1.2.1.1, r10.1, r11.1, r12.1, r13.1, r14.1, r15.1, r16.1, r17.1, r18.1, ())].length) then
self9 (((), (), (), x8.1.2.2.2.1, IntKind.wrap .i64 (x8.1.2.2.2.2.1 + 1), ()), (x8.2.1.1, (x8.2.1.2.1.1, x8.2.1.2.1.2.1, (), x8.2.1.2.1.2.2.2), r18.2.1, ()), x8.2.2.1 ++ [(x8.2.1.2.1.1, r10.1, r11.1, r12.1, r13.1, r14.1, r15.1, r16.1, r17.1, r18.1, ())], ())
else none)
else
some (((), (), (), ()), (x8.2.1.1, (x8.2.1.2.1.1, x8.2.1.2.1.2.1, (), x8.2.1.2.1.2.2.2), x8.2.1.2.2.1, ()), x8.2.2.1, ())) (((), (), (), r6.1, 0, ()), (((⟨#[]⟩ : ByteArray), 0, (), ()), (r4.1, r5.1, (), ()), r6.2.1, ()), ([] : List (ByteArray × (Int × (Int × (Int × (ByteArray × (ByteArray × (ByteArray × (Int × (Int × (Int × Unit))))))))))), ())) fun s7 =>
Option.bind (ref4_Reader_End_C (s7.2.1.2.2.1, ())) fun r19 =>
bif r19.1 == 0 then
(Option.bind (ref28_CheckBatch_C ((s7.2.1.2.1.1, s7.2.1.2.1.2.1, s7.2.2.1, s7.2.1.2.1.2.2.2), ())) fun r20 =>
bif r20.1 != 0 then
(some ((((⟨#[]⟩ : ByteArray), 0, ([] : List (ByteArray × (Int × (Int × (Int × (ByteArray × (ByteArray × (ByteArray × (Int × (Int × (Int × Unit))))))))))), ()), r20.1, ()), ()))
else
some (((s7.2.1.2.1.1, s7.2.1.2.1.2.1, s7.2.2.1, s7.2.1.2.1.2.2.2), 0, ()), ()))
else
bif r19.1 != 0 then
(some ((((⟨#[]⟩ : ByteArray), 0, ([] : List (ByteArray × (Int × (Int × (Int × (ByteArray × (ByteArray × (ByteArray × (Int × (Int × (Int × Unit))))))))))), ()), r19.1, ()), ()))
else
some (((s7.2.1.2.1.1, s7.2.1.2.1.2.1, s7.2.2.1, s7.2.1.2.1.2.2.2), 0, ()), ())
else none
else none
else none
def ref28_Unpack_C : (Int × (List Int × Unit)) → Option (((ByteArray × (Int × (List (ByteArray × (Int × (Int × (Int × (ByteArray × (ByteArray × (ByteArray × (Int × (Int × (Int × Unit)))))))))) × Unit))) × (Int × Unit)) × Unit) := fun x => ref28_Unpack_F (100) x
/-- flagstone/flagstoneref28.SameEvents -/
def ref28_SameEvents_F (fuel : Nat) : (List (ByteArray × (Int × (Int × (Int × (ByteArray × (ByteArray × (ByteArray × (Int × (Int × (Int × Unit)))))))))) × (List (ByteArray × (Int × (Int × (Int × (ByteArray × (ByteArray × (ByteArray × (Int × (Int × (Int × Unit)))))))))) × Unit)) → Option (Bool × Unit) := fun x =>
bif (x.1.length : Int) != (x.2.1.length : Int) then
(some (false, ()))
else
Option.bind (α := (Unit × (Unit × Unit)) ⊕ (Bool × Unit)) (iter fuel (fun (self3 : ((List (ByteArray × (Int × (Int × (Int × (ByteArray × (ByteArray × (ByteArray × (Int × (Int × (Int × Unit)))))))))) × (List (ByteArray × (Int × (Int × (Int × (ByteArray × (ByteArray × (ByteArray × (Int × (Int × (Int × Unit)))))))))) × (Int × Unit))) × (Unit × Unit)) → Option _) (x2 : ((List (ByteArray × (Int × (Int × (Int × (ByteArray × (ByteArray × (ByteArray × (Int × (Int × (Int × Unit)))))))))) × (List (ByteArray × (Int × (Int × (Int × (ByteArray × (ByteArray × (ByteArray × (Int × (Int × (Int × Unit)))))))))) × (Int × Unit))) × (Unit × Unit))) =>
bif decide (x2.1.2.2.1 < (x2.1.1.length : Int)) then
(bif inb x2.1.2.2.1 x2.1.1.length then
let v4 : (ByteArray × (Int × (Int × (Int × (ByteArray × (ByteArray × (ByteArray × (Int × (Int × (Int × Unit)))))))))) := x2.1.1.getD x2.1.2.2.1.toNat ((⟨#[]⟩ : ByteArray), 0, 0, 0, (⟨#[]⟩ : ByteArray), (⟨#[]⟩ : ByteArray), (⟨#[]⟩ : ByteArray), 0, 0, 0, ())
bif inb x2.1.2.2.1 x2.1.2.1.length then
let v5 : (ByteArray × (Int × (Int × (Int × (ByteArray × (ByteArray × (ByteArray × (Int × (Int × (Int × Unit)))))))))) := x2.1.2.1.getD x2.1.2.2.1.toNat ((⟨#[]⟩ : ByteArray), 0, 0, 0, (⟨#[]⟩ : ByteArray), (⟨#[]⟩ : ByteArray), (⟨#[]⟩ : ByteArray), 0, 0, 0, ())
bif !((seq v4.1 v5.1) && ((v4.2.1 == v5.2.1) && ((v4.2.2.1 == v5.2.2.1) && ((v4.2.2.2.1 == v5.2.2.2.1) && ((seq v4.2.2.2.2.1 v5.2.2.2.2.1) && ((seq v4.2.2.2.2.2.1 v5.2.2.2.2.2.1) && ((seq v4.2.2.2.2.2.2.1 v5.2.2.2.2.2.2.1) && ((v4.2.2.2.2.2.2.2.1 == v5.2.2.2.2.2.2.2.1) && ((v4.2.2.2.2.2.2.2.2.1 == v5.2.2.2.2.2.2.2.2.1) && ((v4.2.2.2.2.2.2.2.2.2.1 == v5.2.2.2.2.2.2.2.2.2.1) && true)))))))))) then
(Option.map Sum.inr (some (false, ())))
else
self3 ((x2.1.1, x2.1.2.1, IntKind.wrap .i64 (x2.1.2.2.1 + 1), ()), (), ())
else none
else none)
else
some (Sum.inl ((), (), ()))) ((x.1, x.2.1, 0, ()), (), ())) fun s1 => match s1 with
| .inl s1 => (some (true, ()))
| .inr s6 => some s6
def ref28_SameEvents_C : (List (ByteArray × (Int × (Int × (Int × (ByteArray × (ByteArray × (ByteArray × (Int × (Int × (Int × Unit)))))))))) × (List (ByteArray × (Int × (Int × (Int × (ByteArray × (ByteArray × (ByteArray × (Int × (Int × (Int × Unit)))))))))) × Unit)) → Option (Bool × Unit) := fun x => ref28_SameEvents_F (x.1.length + 100) x
/-- flagstone/flagstoneref28.SameBatch -/
def ref28_SameBatch_F (fuel : Nat) : ((ByteArray × (Int × (List (ByteArray × (Int × (Int × (Int × (ByteArray × (ByteArray × (ByteArray × (Int × (Int × (Int × Unit)))))))))) × Unit))) × ((ByteArray × (Int × (List (ByteArray × (Int × (Int × (Int × (ByteArray × (ByteArray × (ByteArray × (Int × (Int × (Int × Unit)))))))))) × Unit))) × Unit)) → Option (Bool × Unit) := fun x =>
Option.bind (bif (bif seq x.1.1 x.2.1.1 then x.1.2.1 == x.2.1.2.1 else false) then ref28_SameEvents_C (x.1.2.2.1, x.2.1.2.2.1, ()) else some (false, ())) fun r1 =>
some ((bif (bif seq x.1.1 x.2.1.1 then x.1.2.1 == x.2.1.2.1 else false) then r1.1 else false), ())
def ref28_SameBatch_C : ((ByteArray × (Int × (List (ByteArray × (Int × (Int × (Int × (ByteArray × (ByteArray × (ByteArray × (Int × (Int × (Int × Unit)))))))))) × Unit))) × ((ByteArray × (Int × (List (ByteArray × (Int × (Int × (Int × (ByteArray × (ByteArray × (ByteArray × (Int × (Int × (Int × Unit)))))))))) × Unit))) × Unit)) → Option (Bool × Unit) := fun x => ref28_SameBatch_F 0 x
/-- flagstone/flagstonelaw28.EventRoundTrip -/
def law28_EventRoundTrip_F (fuel : Nat) : (List Int × (Int × (Int × (Int × (Int × Unit))))) → Option (Bool × Unit) := fun x =>
Option.bind (law28_awake_C ()) fun r1 =>
bif !r1.1 then
(some (false, ()))
else
bif decide ((x.1.length : Int) > 300) then
(some (true, ()))
else
Option.bind (law28_batch_C (x.1, x.2.1, x.2.2.1, ())) fun r2 =>
Option.bind (event_Pack_C (x.2.2.2.1, (r2.1.1, r2.1.2.1, r2.1.2.2.1, ()), ())) fun r3 =>
Option.bind (event_Unpack_C (x.2.2.2.1, r3.1.1, ())) fun r4 =>
bif decide (0 ≤ Int.tmod x.2.2.2.2.1 64) then
Option.bind (event_Unpack_C (ibits .u64 2 x.2.2.2.1 (ishl .u64 1 (Int.tmod x.2.2.2.2.1 64)), r3.1.1, ())) fun r5 =>
Option.bind (ref28_Unpack_C (ibits .u64 2 x.2.2.2.1 (ishl .u64 1 (Int.tmod x.2.2.2.2.1 64)), r3.1.1, ())) fun r6 =>
Option.bind (bif (bif r3.1.2.1 == 0 then r4.1.2.1 == 0 else false) then ref28_SameBatch_C ((r2.1.1, r2.1.2.1, r2.1.2.2.1, ()), (r4.1.1.1, r4.1.1.2.1, r4.1.1.2.2.1, ()), ()) else some (false, ())) fun r7 =>
Option.bind (bif (bif (bif (bif r3.1.2.1 == 0 then r4.1.2.1 == 0 else false) then r7.1 else false) then r5.1.2.1 == r6.1.2.1 else false) then ref28_SameBatch_C ((r5.1.1.1, r5.1.1.2.1, r5.1.1.2.2.1, ()), (r6.1.1.1, r6.1.1.2.1, r6.1.1.2.2.1, ()), ()) else some (false, ())) fun r8 =>
some ((bif (bif (bif (bif r3.1.2.1 == 0 then r4.1.2.1 == 0 else false) then r7.1 else false) then r5.1.2.1 == r6.1.2.1 else false) then r8.1 else false), ())
else none
def law28_EventRoundTrip_C : (List Int × (Int × (Int × (Int × (Int × Unit))))) → Option (Bool × Unit) := fun x => law28_EventRoundTrip_F 0 x
/-- flagstone/flagstonelaw28.sealed -/
def law28_sealed_F (fuel : Nat) : (List Int × Unit) → Option (List Int × Unit) := fun x =>
Option.bind (ref28_Seal_C (0, x.1, ())) fun r1 =>
some (r1.1, ())
def law28_sealed_C : (List Int × Unit) → Option (List Int × Unit) := fun x => law28_sealed_F 0 x
/-- flagstone/flagstonelaw28.EventReads -/
def law28_EventReads_F (fuel : Nat) : (List Int × (Int × Unit)) → Option (Bool × Unit) := fun x =>
Option.bind (law28_awake_C ()) fun r1 =>
bif !r1.1 then
(some (false, ()))
else
bif decide ((x.1.length : Int) > 2000) then
(some (true, ()))
else
Option.bind (event_Unpack_C (x.2.1, x.1, ())) fun r2 =>
Option.bind (ref28_Unpack_C (x.2.1, x.1, ())) fun r3 =>
Option.bind (law28_sealed_C (x.1, ())) fun r4 =>
Option.bind (event_Unpack_C (0, r4.1, ())) fun r5 =>
Option.bind (law28_sealed_C (x.1, ())) fun r6 =>
Option.bind (ref28_Unpack_C (0, r6.1, ())) fun r7 =>
Option.bind (bif r2.1.2.1 == r3.1.2.1 then ref28_SameBatch_C ((r2.1.1.1, r2.1.1.2.1, r2.1.1.2.2.1, ()), (r3.1.1.1, r3.1.1.2.1, r3.1.1.2.2.1, ()), ()) else some (false, ())) fun r8 =>
Option.bind (bif (bif (bif r2.1.2.1 == r3.1.2.1 then r8.1 else false) then r5.1.2.1 == r7.1.2.1 else false) then ref28_SameBatch_C ((r5.1.1.1, r5.1.1.2.1, r5.1.1.2.2.1, ()), (r7.1.1.1, r7.1.1.2.1, r7.1.1.2.2.1, ()), ()) else some (false, ())) fun r9 =>
some ((bif (bif (bif r2.1.2.1 == r3.1.2.1 then r8.1 else false) then r5.1.2.1 == r7.1.2.1 else false) then r9.1 else false), ())
def law28_EventReads_C : (List Int × (Int × Unit)) → Option (Bool × Unit) := fun x => law28_EventReads_F 0 x
/-- flagstone/flagstonedata.Spoil -/
def data_Spoil_F (fuel : Nat) : (List Int × (Int × (Int × (Int × Unit)))) → Option (List Int × Unit) := fun x =>
bif roomy 0 x.1.length then
bif decide (((([] : List Int) ++ x.1).length : Int) > 0) then
(bif ((([] : List Int) ++ x.1).length : Int) != 0 then
let v1 : Int := Int.tmod (IntKind.wrap .i64 (x.2.1)) ((([] : List Int) ++ x.1).length : Int)
Option.bind (α := ((List Int × Unit) × (Unit × Unit))) (bif (Int.tmod x.2.2.1 5) == 0 then
(bif decide (((([] : List Int) ++ x.1).length : Int) > 0) then
(bif inb v1 ((([] : List Int) ++ x.1).length) then
bif inb v1 ((([] : List Int) ++ x.1).length) then
some (((([] : List Int) ++ x.1).set v1.toNat x.2.2.2.1, ()), (), ())
else none
else none)
else
some ((([] : List Int) ++ x.1, ()), (), ()))
else
bif (Int.tmod x.2.2.1 5) == 1 then
(bif cutOk none (some v1) none x.1.length then
bif roomy 0 ((cutL x.1 none (some v1)).length) then
bif roomy ((([] : List Int) ++ (cutL x.1 none (some v1))).length) ([x.2.2.2.1].length) then
bif cutOk (some v1) none none x.1.length then
bif roomy (((([] : List Int) ++ (cutL x.1 none (some v1))) ++ [x.2.2.2.1]).length) ((cutL x.1 (some v1) none).length) then
some ((((([] : List Int) ++ (cutL x.1 none (some v1))) ++ [x.2.2.2.1]) ++ (cutL x.1 (some v1) none), ()), (), ())
else none
else none
else none
else none
else none)
else
bif (Int.tmod x.2.2.1 5) == 2 then
(bif decide (((([] : List Int) ++ x.1).length : Int) > 0) then
(bif cutOk none (some v1) none x.1.length then
bif roomy 0 ((cutL x.1 none (some v1)).length) then
bif cutOk (some (IntKind.wrap .i64 (v1 + 1))) none none x.1.length then
bif roomy ((([] : List Int) ++ (cutL x.1 none (some v1))).length) ((cutL x.1 (some (IntKind.wrap .i64 (v1 + 1))) none).length) then
some (((([] : List Int) ++ (cutL x.1 none (some v1))) ++ (cutL x.1 (some (IntKind.wrap .i64 (v1 + 1))) none), ()), (), ())
else none
else none
else none
else none)
else
some ((([] : List Int) ++ x.1, ()), (), ()))
else
bif (Int.tmod x.2.2.1 5) == 3 then
(bif cutOk none (some v1) none ((([] : List Int) ++ x.1).length) then
some ((cutL (([] : List Int) ++ x.1) none (some v1), ()), (), ())
else none)
else
some ((([] : List Int) ++ x.1, ()), (), ())) fun s2 =>
some (s2.1.1, ())
else none)
else
Option.bind (α := ((List Int × Unit) × (Unit × Unit))) (bif (Int.tmod x.2.2.1 5) == 0 then
(bif decide (((([] : List Int) ++ x.1).length : Int) > 0) then
(bif inb 0 ((([] : List Int) ++ x.1).length) then
bif inb 0 ((([] : List Int) ++ x.1).length) then
some (((([] : List Int) ++ x.1).set 0 x.2.2.2.1, ()), (), ())
else none
else none)
else
some ((([] : List Int) ++ x.1, ()), (), ()))
else
bif (Int.tmod x.2.2.1 5) == 1 then
(bif cutOk none (some 0) none x.1.length then
bif roomy 0 ((cutL x.1 none (some 0)).length) then
bif roomy ((([] : List Int) ++ (cutL x.1 none (some 0))).length) ([x.2.2.2.1].length) then
bif cutOk (some 0) none none x.1.length then
bif roomy (((([] : List Int) ++ (cutL x.1 none (some 0))) ++ [x.2.2.2.1]).length) ((cutL x.1 (some 0) none).length) then
some ((((([] : List Int) ++ (cutL x.1 none (some 0))) ++ [x.2.2.2.1]) ++ (cutL x.1 (some 0) none), ()), (), ())
else none
else none
else none
else none
else none)
else
bif (Int.tmod x.2.2.1 5) == 2 then
(bif decide (((([] : List Int) ++ x.1).length : Int) > 0) then
(bif cutOk none (some 0) none x.1.length then
bif roomy 0 ((cutL x.1 none (some 0)).length) then
bif cutOk (some 1) none none x.1.length then
bif roomy ((([] : List Int) ++ (cutL x.1 none (some 0))).length) ((cutL x.1 (some 1) none).length) then
some (((([] : List Int) ++ (cutL x.1 none (some 0))) ++ (cutL x.1 (some 1) none), ()), (), ())
else none
else none
else none
else none)
else
some ((([] : List Int) ++ x.1, ()), (), ()))
else
bif (Int.tmod x.2.2.1 5) == 3 then
(bif cutOk none (some 0) none ((([] : List Int) ++ x.1).length) then
some ((cutL (([] : List Int) ++ x.1) none (some 0), ()), (), ())
else none)
else
some ((([] : List Int) ++ x.1, ()), (), ())) fun s3 =>
some (s3.1.1, ())
else none
def data_Spoil_C : (List Int × (Int × (Int × (Int × Unit)))) → Option (List Int × Unit) := fun x => data_Spoil_F 0 x
/-- flagstone/flagstonelaw28.EventChanged -/
def law28_EventChanged_F (fuel : Nat) : (List Int × (Int × (Int × (Int × (Int × (Int × (Bool × Unit))))))) → Option (Bool × Unit) := fun x =>
Option.bind (law28_awake_C ()) fun r1 =>
bif !r1.1 then
(some (false, ()))
else
bif decide ((x.1.length : Int) > 300) then
(some (true, ()))
else
Option.bind (law28_batch_C (x.1, x.2.1, x.2.2.1, ())) fun r2 =>
Option.bind (ref28_Pack_C (0, (r2.1.1, r2.1.2.1, r2.1.2.2.1, ()), ())) fun r3 =>
bif (bif x.2.2.2.2.2.2.1 then decide ((r3.1.1.length : Int) > 8) else false) then
(bif cutOk none (some (IntKind.wrap .i64 ((r3.1.1.length : Int) - 8))) none r3.1.1.length then
let v4 : List Int := cutL r3.1.1 none (some (IntKind.wrap .i64 ((r3.1.1.length : Int) - 8)))
Option.bind (data_Spoil_C (v4, x.2.2.2.1, x.2.2.2.2.1, x.2.2.2.2.2.1, ())) fun r5 =>
Option.bind (law28_sealed_C (r5.1, ())) fun r6 =>
Option.bind (event_Unpack_C (0, r6.1, ())) fun r7 =>
Option.bind (ref28_Unpack_C (0, r6.1, ())) fun r8 =>
Option.bind (bif !(r7.1.2.1 != r8.1.2.1) then ref28_SameBatch_C ((r7.1.1.1, r7.1.1.2.1, r7.1.1.2.2.1, ()), (r8.1.1.1, r8.1.1.2.1, r8.1.1.2.2.1, ()), ()) else some (false, ())) fun r9 =>
bif (bif r7.1.2.1 != r8.1.2.1 then true else !r9.1) then
(some (false, ()))
else
bif r7.1.2.1 != 0 then
(some ((bif (r7.1.1.2.2.1.length : Int) == 0 then seq r7.1.1.1 (⟨#[]⟩ : ByteArray) else false), ()))
else
Option.bind (event_Pack_C (0, (r7.1.1.1, r7.1.1.2.1, r7.1.1.2.2.1, ()), ())) fun r10 =>
some ((bif r10.1.2.1 == 0 then seq (strOf r10.1.1) (strOf r6.1) else false), ())
else none)
else
Option.bind (data_Spoil_C (r3.1.1, x.2.2.2.1, x.2.2.2.2.1, x.2.2.2.2.2.1, ())) fun r11 =>
Option.bind (event_Unpack_C (0, r11.1, ())) fun r12 =>
Option.bind (ref28_Unpack_C (0, r11.1, ())) fun r13 =>
Option.bind (bif !(r12.1.2.1 != r13.1.2.1) then ref28_SameBatch_C ((r12.1.1.1, r12.1.1.2.1, r12.1.1.2.2.1, ()), (r13.1.1.1, r13.1.1.2.1, r13.1.1.2.2.1, ()), ()) else some (false, ())) fun r14 =>
bif (bif r12.1.2.1 != r13.1.2.1 then true else !r14.1) then
(some (false, ()))
else
bif r12.1.2.1 != 0 then
(some ((bif (r12.1.1.2.2.1.length : Int) == 0 then seq r12.1.1.1 (⟨#[]⟩ : ByteArray) else false), ()))
else
Option.bind (event_Pack_C (0, (r12.1.1.1, r12.1.1.2.1, r12.1.1.2.2.1, ()), ())) fun r15 =>
some ((bif r15.1.2.1 == 0 then seq (strOf r15.1.1) (strOf r11.1) else false), ())
def law28_EventChanged_C : (List Int × (Int × (Int × (Int × (Int × (Int × (Bool × Unit))))))) → Option (Bool × Unit) := fun x => law28_EventChanged_F 0 x
end Go.Proofs.YtabkfgkpofjeoaaDoor.F
