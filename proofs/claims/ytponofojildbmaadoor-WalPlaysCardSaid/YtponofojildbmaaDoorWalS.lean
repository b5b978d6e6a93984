/- The plain law of frames: what bytes begin with. No program in sight. -/
import Derived.Test.YtponofojildbmaaDoorNum
import Derived.Test.YtponofojildbmaaDoorShaG
import Derived.Laws.BitsAllLaws
set_option linter.unusedVariables false
set_option linter.unusedSimpArgs false
namespace Go.Proofs.YtponofojildbmaaDoor
open Go.RowKit PrintLast

theorem sum256_len (p : List UInt8) : (sum256 p).length = 32 := by
  have e : sum256 p = bytesOf (run first (padded p)).1 := rfl
  rw [e, bytesOf_length, run_length rfl _]
/-- A number in four bytes, read again. -/
theorem readNat_num (n : Nat) (h : n < 4294967296) : readNat (numBytes n 4) = n := by
  have e : numBytes n 4 = [UInt8.ofNat (n / 16777216), UInt8.ofNat (n / 65536), UInt8.ofNat (n / 256), UInt8.ofNat (n / 1)] := rfl
  rw [e]
  simp only [readNat, List.foldl_cons, List.foldl_nil, UInt8.toNat_ofNat']
  omega
def check4 (p : List UInt8) : List UInt8 := (sum256 (numBytes p.length 4 ++ p)).take 4
theorem check4_length (p : List UInt8) : (check4 p).length = 4 := by unfold check4; rw [List.length_take, sum256_len]; rfl
/-- A frame's bytes. -/
def frameB (p : List UInt8) : List UInt8 := numBytes p.length 4 ++ check4 p ++ p
theorem frameB_length (p : List UInt8) : (frameB p).length = 8 + p.length := by simp [frameB, numBytes_length, check4_length]; omega
/-- The first payload, if there is one. -/
def nextB (p : List UInt8) : Option (List UInt8) :=
  if p.length < 8 then none
  else if 1048576 < readNat (p.take 4) ∨ p.length - 8 < readNat (p.take 4) then none
  else if frameB ((p.drop 8).take (readNat (p.take 4))) = p.take (8 + readNat (p.take 4)) then some ((p.drop 8).take (readNat (p.take 4)))
  else none
theorem nextB_short {p : List UInt8} (h : p.length < 8) : nextB p = none := by unfold nextB; rw [if_pos h]
theorem nextB_len {p q : List UInt8} (h : nextB p = some q) : 8 + q.length ≤ p.length ∧ q = (p.drop 8).take q.length ∧ q.length ≤ 1048576 ∧ q.length = readNat (p.take 4) ∧ frameB q = p.take (8 + q.length) := by
  unfold nextB at h
  split at h
  · cases h
  · split at h
    · cases h
    · split at h
      · rename_i h1 h2 h3
        injection h with h
        have hl : q.length = readNat (p.take 4) := by rw [← h, List.length_take, List.length_drop]; omega
        refine ⟨by omega, by rw [hl, h], by omega, hl, ?_⟩
        rw [hl, ← h]
        rw [h] at h3 ⊢
        exact h3
      · cases h
/-- All payloads, and how many bytes their frames have. -/
def scanB (p : List UInt8) : List (List UInt8) × Nat :=
  match h : nextB p with
  | none => ([], 0)
  | some q => (q :: (scanB (p.drop (8 + q.length))).1, 8 + q.length + (scanB (p.drop (8 + q.length))).2)
termination_by p.length
decreasing_by
  all_goals
    have := (nextB_len h).1
    rw [List.length_drop]
    omega
theorem scanB_none {p : List UInt8} (h : nextB p = none) : scanB p = ([], 0) := by
  rw [scanB]
  split
  · rfl
  · rename_i q hq; rw [h] at hq; cases hq
theorem scanB_some {p q : List UInt8} (h : nextB p = some q) : scanB p = (q :: (scanB (p.drop (8 + q.length))).1, 8 + q.length + (scanB (p.drop (8 + q.length))).2) := by
  rw [scanB]
  split
  · rename_i hq; rw [h] at hq; cases hq
  · rename_i q' hq; rw [h] at hq; cases hq; rfl
theorem next_frame (q r : List UInt8) (h : q.length ≤ 1048576) : nextB (frameB q ++ r) = some q := by
  have l4 : (frameB q ++ r).take 4 = numBytes q.length 4 := by
    unfold frameB
    rw [List.append_assoc, List.append_assoc, List.take_append_of_le_length (by rw [numBytes_length]; omega), List.take_of_length_le (by rw [numBytes_length]; omega)]
  have rd : readNat ((frameB q ++ r).take 4) = q.length := by rw [l4]; exact readNat_num _ (by omega)
  have ll : (frameB q ++ r).length = 8 + q.length + r.length := by rw [List.length_append, frameB_length]
  have hd : ((frameB q ++ r).drop 8).take q.length = q := by
    have e : frameB q ++ r = (numBytes q.length 4 ++ check4 q) ++ (q ++ r) := by simp [frameB]
    rw [e, List.drop_left' (by rw [List.length_append, numBytes_length, check4_length]), List.take_left' rfl]
  have ht : (frameB q ++ r).take (8 + q.length) = frameB q := List.take_left' (frameB_length q)
  unfold nextB
  rw [rd, if_neg (by omega), if_neg (by omega), hd, ht, if_pos rfl]
def allB (l : List (List UInt8)) : List UInt8 := l.flatMap frameB
theorem scan_frames (l : List (List UInt8)) (r : List UInt8) (h : ∀ q ∈ l, q.length ≤ 1048576) : scanB (allB l ++ r) = (l ++ (scanB r).1, (allB l).length + (scanB r).2) := by
  induction l with
  | nil => simp [allB]
  | cons q l ih =>
    have e : allB (q :: l) ++ r = frameB q ++ (allB l ++ r) := by simp [allB]
    rw [e, scanB_some (next_frame q _ (h q (by simp)))]
    have hd : (frameB q ++ (allB l ++ r)).drop (8 + q.length) = allB l ++ r := List.drop_left' (frameB_length q)
    rw [hd, ih (fun x hx => h x (by simp [hx]))]
    have el : (allB (q :: l)).length = 8 + q.length + (allB l).length := by
      have : allB (q :: l) = frameB q ++ allB l := by simp [allB]
      rw [this, List.length_append, frameB_length]
    rw [el]
    simp only [List.cons_append, Nat.add_assoc]
/-- A frame that is cut begins with none. -/
theorem next_cut (q : List UInt8) (k : Nat) (hq : q.length ≤ 1048576) (h : k < (frameB q).length) : nextB ((frameB q).take k) = none := by
  rw [frameB_length] at h
  by_cases h8 : k < 8
  · exact nextB_short (by rw [List.length_take, frameB_length]; omega)
  · have l4 : ((frameB q).take k).take 4 = numBytes q.length 4 := by
      rw [List.take_take, Nat.min_eq_left (by omega)]
      unfold frameB
      rw [List.append_assoc, List.take_append_of_le_length (by rw [numBytes_length]; omega), List.take_of_length_le (by rw [numBytes_length]; omega)]
    have rd : readNat (((frameB q).take k).take 4) = q.length := by rw [l4]; exact readNat_num _ (by omega)
    have ll : ((frameB q).take k).length = k := by rw [List.length_take, frameB_length]; omega
    unfold nextB
    rw [rd, ll, if_neg h8, if_pos (by omega)]
/-- The scan's numbers. -/
theorem scanB_le : ∀ (n : Nat) (p : List UInt8), p.length = n → (scanB p).2 ≤ p.length ∧ allB (scanB p).1 = p.take (scanB p).2 ∧ (allB (scanB p).1).length = (scanB p).2 ∧ ∀ q ∈ (scanB p).1, q.length ≤ 1048576 := by
  intro n
  induction n using Nat.strongRecOn with
  | _ n ih =>
    intro p hp
    cases hq : nextB p with
    | none => rw [scanB_none hq]; simp [allB]
    | some q =>
      obtain ⟨h1, h2, h3, h4, h5⟩ := nextB_len hq
      rw [scanB_some hq]
      obtain ⟨i1, i2, i3, i4⟩ := ih (p.drop (8 + q.length)).length (by rw [List.length_drop]; omega) _ rfl
      rw [List.length_drop] at i1
      have ea : allB (q :: (scanB (p.drop (8 + q.length))).1) = frameB q ++ allB (scanB (p.drop (8 + q.length))).1 := by simp [allB]
      refine ⟨by simp only; omega, ?_, ?_, ?_⟩
      · rw [ea, i2, h5]
        exact List.take_add.symm
      · rw [ea, List.length_append, i3, frameB_length]
      · intro x hx
        simp only [List.mem_cons] at hx
        rcases hx with rfl | hx
        · exact h3
        · exact i4 x hx
theorem or_byte (a b : Nat) (ha : a < 16777216) (hb : b < 256) : bits .or .i64 ((a : Int) * 256) (b : Int) = ((256 * a + b : Nat) : Int) := by
  have e : (a : Int) * 256 = ((a * 256 : Nat) : Int) := by omega
  rw [e]
  show IntKind.i64.wrap ((BitVec.ofInt 64 ((a * 256 : Nat) : Int) ||| BitVec.ofInt 64 (b : Int)).toNat : Int) = _
  rw [BitVec.toNat_or, ofInt_u64 (a * 256) (by omega), ofInt_u64 b (by omega)]
  have h := Nat.shiftLeft_add_eq_or_of_lt (i := 8) (b := b) (by omega) a
  rw [Nat.shiftLeft_eq] at h
  have h2 : a * 256 ||| b = 256 * a + b := by
    have : a * 2 ^ 8 = a * 256 := rfl
    rw [this] at h
    omega
  rw [h2, IntKind.wrap_i64]
  omega
end Go.Proofs.YtponofojildbmaaDoor
