/- The rules by which a printed region's frame is brought to a literal, under one name. No condition. -/
import Derived.Test.YtnidgljkbmceaaaGreatDoorLast
set_option linter.unusedVariables false
namespace Go.Proofs.YtnidgljkbmceaaaGreatDoor
open Go.RowKit PrintLast

def tf (n m : Nat) : Array Bool := ((List.range n).map (fun i => m.testBit i)).toArray
theorem pn_ : (∀ (a : Act) (i : Tmp) (v : Value), a.put (some i) v = { a with tmps := a.tmps.setIfInBounds i v }) ∧ (∀ (a : Act) (v : Value), a.put none v = a) ∧ (∀ (l : List Value) (i : Nat) (v : Value), l.toArray.setIfInBounds i v = (l.set i v).toArray) ∧ (∀ (x v : Value) (l : List Value), (x :: l).set 0 v = v :: l) ∧ (∀ (x v : Value) (l : List Value) (i : Nat), (x :: l).set (i + 1) v = x :: l.set i v) ∧ (∀ n, IntKind.i64.wrap n = Go.RowKit.wrap64 n) ∧ (∀ n, IntKind.i32.wrap n = Go.RowKit.wrap32 n) :=
  ⟨fun _ _ _ => rfl, fun _ _ => rfl, fun _ _ _ => by simp, fun _ _ _ => rfl, fun _ _ _ _ => rfl, i64_w, i32_w⟩
end Go.Proofs.YtnidgljkbmceaaaGreatDoor
