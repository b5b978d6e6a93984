/- The plain law of what is shown: what is hashed, from the first on; what is accepted; what clashes. No program in sight. -/
import Derived.Test.YtdhhaibefifdmaaGreatDoorTreeS
import Derived.Test.YtdhhaibefifdmaaGreatDoorPrfS
set_option linter.unusedVariables false
set_option linter.unusedSimpArgs false
namespace Go.Proofs.YtdhhaibefifdmaaGreatDoor
open Go.RowKit PrintLast

/-- What is hashed at a proof's end. -/
def endD (key : ByteArray) (x : Prf) : List UInt8 := if x.kind = 1 then leafB key.data.toList x.row else if x.kind = 2 then leafB x.key.data.toList x.row else [0]
/-- One step up. -/
def stepU (path : List UInt8) (i : Nat) (s : ByteArray) (t : List UInt8) : List UInt8 :=
  if bitOf path (i : Int) = 1 then nodeB s.data.toList (sum256 t) else nodeB (sum256 t) s.data.toList
/-- What is hashed, from the depth i on. -/
def wayS (path d : List UInt8) : Nat → List ByteArray → List (List UInt8)
  | _, [] => [d]
  | i, s :: l => stepU path i s ((wayS path d (i + 1) l).headD []) :: wayS path d (i + 1) l
def topS (path d : List UInt8) (i : Nat) (l : List ByteArray) : List UInt8 := (wayS path d i l).headD []
theorem wayS_cons (path d : List UInt8) (i : Nat) (s : ByteArray) (l : List ByteArray) : wayS path d i (s :: l) = stepU path i s (topS path d (i + 1) l) :: wayS path d (i + 1) l := rfl
theorem wayS_length (path d : List UInt8) (l : List ByteArray) : ∀ i, (wayS path d i l).length = l.length + 1 := by
  induction l with
  | nil => intro i; rfl
  | cons s l ih => intro i; simp [wayS, ih]
theorem wayS_top (path d : List UInt8) (i : Nat) (l : List ByteArray) : ∃ r, wayS path d i l = topS path d i l :: r := by
  cases l with
  | nil => exact ⟨[], rfl⟩
  | cons s l => exact ⟨_, rfl⟩
theorem topS_nil (path d : List UInt8) (i : Nat) : topS path d i [] = d := rfl
theorem topS_cons (path d : List UInt8) (i : Nat) (s : ByteArray) (l : List ByteArray) : topS path d i (s :: l) = stepU path i s (topS path d (i + 1) l) := rfl
/-- All that is hashed. -/
def stepsB (key last sum : ByteArray) (x : Prf) : List (List UInt8) :=
  linkB last.data.toList (sum256 (topS (pathK key) (endD key x) 0 x.side)) sum.data.toList :: wayS (pathK key) (endD key x) 0 x.side
theorem stepsB_length (key last sum : ByteArray) (x : Prf) : (stepsB key last sum x).length = x.side.length + 2 := by simp [stepsB, wayS_length]

/-- What is laid: a proof, and two digests; none: it isn't laid so. -/
def readV (p : List UInt8) : Option (Prf × ByteArray × ByteArray) :=
  if p.length < 64 then none else match decB (p.drop 64) with
    | .ok x => some (x, strB (p.take 32), strB ((p.drop 32).take 32))
    | .error _ => none
def stepsP (key : ByteArray) (p : List UInt8) : Option (List (List UInt8)) := (readV p).map fun x => stepsB key x.2.1 x.2.2 x.1
/-- Does another key stand where a key would, so deep? -/
def besideB (key other : ByteArray) (n : Nat) : Bool := decide (∀ i, i < n → bitOf (pathK key) (i : Int) = bitOf (pathK other) (i : Int)) && decide (key ≠ other)
def tellsB (key : ByteArray) (row : List UInt8) (there : Bool) (x : Prf) : Bool :=
  if there then decide (x.kind = 1) && decide (x.row = row) else decide (row = []) && (decide (x.kind = 0) || decide (x.kind = 2) && besideB key x.key x.side.length)
def acceptB (digest key : ByteArray) (row : List UInt8) (there : Bool) (p : List UInt8) : Bool :=
  match readV p with
  | none => false
  | some x => tellsB key row there x.1 && decide (dig ((stepsB key x.2.1 x.2.2 x.1).headD []) = digest)
def clashL : List (List UInt8) → List (List UInt8) → Option (List UInt8 × List UInt8)
  | a :: l, b :: m => if a ≠ b ∧ dig a = dig b then some (a, b) else clashL l m
  | _, _ => none
def clashP (key : ByteArray) (p q : List UInt8) : Option (List UInt8 × List UInt8) :=
  match stepsP key p, stepsP key q with
  | some a, some b => clashL a b
  | _, _ => none

/-! ### the fields of what is laid -/
def layB (last sum : ByteArray) (x : Prf) : List UInt8 := last.data.toList ++ sum.data.toList ++ encB x
theorem readV_lay {last sum : ByteArray} {x : Prf} (hl : last.size = 32) (hs : sum.size = 32) (hx : Fits x) : readV (layB last sum x) = some (x, last, sum) := by
  have l1 : last.data.toList.length = 32 := by simpa using hl
  have l2 : sum.data.toList.length = 32 := by simpa using hs
  unfold readV layB
  rw [if_neg (by simp only [List.length_append]; omega)]
  have e1 : (last.data.toList ++ sum.data.toList ++ encB x).drop 64 = encB x := by
    rw [List.drop_append_of_le_length (by rw [List.length_append]; omega), List.drop_of_length_le (by rw [List.length_append]; omega)]; rfl
  have e2 : (last.data.toList ++ sum.data.toList ++ encB x).take 32 = last.data.toList := by
    rw [List.append_assoc, List.take_append_of_le_length (by omega), List.take_of_length_le (by omega)]
  have e3 : ((last.data.toList ++ sum.data.toList ++ encB x).drop 32).take 32 = sum.data.toList := by
    rw [List.append_assoc, List.drop_append_of_le_length (by omega), List.drop_of_length_le (by omega), List.nil_append, List.take_append_of_le_length (by omega), List.take_of_length_le (by omega)]
  rw [e1, e2, e3, decB_enc x hx]
  simp only [strB_of]

/-! ### lengths, and where a sum stands -/
theorem stepU_length (path : List UInt8) (i : Nat) (s : ByteArray) (t : List UInt8) (hs : s.size = 32) : (stepU path i s t).length = 65 := by
  have l1 : s.data.toList.length = 32 := by simpa using hs
  unfold stepU
  split <;> rw [nodeB_length, sum256_length] <;> omega
theorem stepU_at (path : List UInt8) (i : Nat) (s : ByteArray) (t : List UInt8) (hs : s.size = 32) : ((stepU path i s t).drop (if bitOf path (i : Int) = 1 then 33 else 1)).take 32 = sum256 t := by
  have l1 : s.data.toList.length = 32 := by simpa using hs
  have l2 := sum256_length t
  unfold stepU
  split
  · rw [show nodeB s.data.toList (sum256 t) = (2 :: s.data.toList) ++ sum256 t from rfl, List.drop_append_of_le_length (by simp only [List.length_cons]; omega), List.drop_of_length_le (by simp only [List.length_cons]; omega), List.nil_append, List.take_of_length_le (by omega)]
  · show (((2 :: (sum256 t ++ s.data.toList)) : List UInt8).drop 1).take 32 = _
    rw [List.drop_succ_cons, List.drop_zero, List.take_append_of_le_length (by omega), List.take_of_length_le (by omega)]
theorem linkB_at {last sum : ByteArray} (t : List UInt8) (hl : last.size = 32) (hs : sum.size = 32) : ((linkB last.data.toList (sum256 t) sum.data.toList).drop 33).take 32 = sum256 t ∧ (linkB last.data.toList (sum256 t) sum.data.toList).length = 97 := by
  have l1 : last.data.toList.length = 32 := by simpa using hl
  have l3 : sum.data.toList.length = 32 := by simpa using hs
  have l2 := sum256_length t
  constructor
  · rw [show linkB last.data.toList (sum256 t) sum.data.toList = (3 :: last.data.toList) ++ (sum256 t ++ sum.data.toList) by simp [linkB], List.drop_append_of_le_length (by simp only [List.length_cons]; omega), List.drop_of_length_le (by simp only [List.length_cons]; omega), List.nil_append, List.take_append_of_le_length (by omega), List.take_of_length_le (by omega)]
  · rw [linkB_length]; omega
theorem wayS_get (path d : List UInt8) (l : List ByteArray) : ∀ (i k : Nat) (h : k < l.length), (wayS path d i l)[k]? = some (stepU path (i + k) l[k] (topS path d (i + k + 1) (l.drop (k + 1)))) ∧ (wayS path d i l)[k + 1]? = some (topS path d (i + k + 1) (l.drop (k + 1))) := by
  induction l with
  | nil => intro i k h; simp at h
  | cons s l ih =>
    intro i k h
    cases k with
    | zero =>
      obtain ⟨r, hr⟩ := wayS_top path d (i + 1) l
      rw [wayS_cons]
      refine ⟨rfl, ?_⟩
      rw [List.getElem?_cons_succ, hr]
      rfl
    | succ k =>
      have := ih (i + 1) k (by simpa using h)
      rw [wayS_cons]
      simp only [List.getElem?_cons_succ, List.getElem_cons_succ, List.drop_succ_cons]
      rw [show i + (k + 1) = i + 1 + k by omega]
      exact this
end Go.Proofs.YtdhhaibefifdmaaGreatDoor
