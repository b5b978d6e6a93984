/- The plain law of a proof's bytes: how they are laid, and read. No program in sight. -/
import Derived.Test.YtdhhaibefifdmaaGreatDoorNum
set_option linter.unusedVariables false
set_option linter.unusedSimpArgs false
namespace Go.Proofs.YtdhhaibefifdmaaGreatDoor

/-- A text of bytes. -/
def strB (l : List UInt8) : ByteArray := ⟨l.toArray⟩
theorem strB_list (l : List UInt8) : (strB l).data.toList = l := by simp [strB]
theorem strB_size (l : List UInt8) : (strB l).size = l.length := by simp [strB, ByteArray.size]
theorem str_eq {a b : ByteArray} (h : a.data.toList = b.data.toList) : a = b := by
  cases a; cases b; simp at h; rw [h]
theorem strB_of (s : ByteArray) : strB s.data.toList = s := str_eq (strB_list _)
theorem strB_inj {a b : List UInt8} (h : strB a = strB b) : a = b := by rw [← strB_list a, h, strB_list]

/-- A proof: the digests beside the way, and what stands at its end. -/
structure Prf where
  side : List ByteArray
  kind : UInt8
  key : ByteArray
  row : List UInt8
def textS (s : List UInt8) : List UInt8 := numBytes s.length 2 ++ s
def endS (p : Prf) : List UInt8 := (if p.kind = 2 then textS p.key.data.toList else []) ++ (if p.kind = 1 ∨ p.kind = 2 then textS p.row else [])
def sidesS (l : List ByteArray) : List UInt8 := l.flatMap (·.data.toList)
def encB (p : Prf) : List UInt8 := numBytes p.side.length 2 ++ sidesS p.side ++ p.kind :: endS p

theorem readNat_two (n : Nat) (h : n < 65536) : readNat (numBytes n 2) = n := by
  have e : numBytes n 2 = [UInt8.ofNat (n / 256), UInt8.ofNat (n / 1)] := rfl
  rw [e]
  simp only [readNat, List.foldl_cons, List.foldl_nil, UInt8.toNat_ofNat']
  omega
theorem textS_length (s : List UInt8) : (textS s).length = 2 + s.length := by simp [textS, numBytes_length]

/-- So many bytes, behind how many they are: the bytes, and what is left; or the error's number. -/
def textB (l : List UInt8) : Except Nat (List UInt8 × List UInt8) :=
  if l.length < 2 then .error 3 else if 4000 < readNat (l.take 2) then .error 2 else if (l.drop 2).length < readNat (l.take 2) then .error 3
  else .ok ((l.drop 2).take (readNat (l.take 2)), (l.drop 2).drop (readNat (l.take 2)))
def lastB (p : Prf) (l : List UInt8) : Except Nat Prf := if l = [] then .ok p else .error 2
def rowB (s : List ByteArray) (k : UInt8) (key : ByteArray) (l : List UInt8) : Except Nat Prf :=
  match textB l with
  | .error e => .error e
  | .ok (row, r) => lastB ⟨s, k, key, row⟩ r
def otherB (s : List ByteArray) (k : UInt8) (l : List UInt8) : Except Nat Prf :=
  match textB l with
  | .error e => .error e
  | .ok (key, r) => rowB s k (strB key) r
def endB (s : List ByteArray) : List UInt8 → Except Nat Prf
  | [] => .error 3
  | k :: r => if 2 < k.toNat then .error 2 else if k = 2 then otherB s k r else if k = 1 then rowB s k ByteArray.empty r else lastB ⟨s, k, ByteArray.empty, []⟩ r
/-- The first so many sides. -/
def sidesB (n : Nat) (l : List UInt8) : List ByteArray := (List.range n).map fun i => strB ((l.drop (32 * i)).take 32)
def decB (q : List UInt8) : Except Nat Prf :=
  if q.length < 2 then .error 3 else if 256 < readNat (q.take 2) then .error 2
  else if (q.drop 2).length < 32 * readNat (q.take 2) then .error 3
  else endB (sidesB (readNat (q.take 2)) (q.drop 2)) ((q.drop 2).drop (32 * readNat (q.take 2)))

theorem sidesB_length (n : Nat) (l : List UInt8) : (sidesB n l).length = n := by simp [sidesB]
theorem sidesB_next (n : Nat) (l : List UInt8) : sidesB (n + 1) l = sidesB n l ++ [strB ((l.drop (32 * n)).take 32)] := by
  unfold sidesB
  rw [List.range_succ, List.map_append]
  rfl

/-! ### what was laid is read -/
theorem textB_text (s r : List UInt8) (h : s.length ≤ 4000) : textB (textS s ++ r) = .ok (s, r) := by
  unfold textB textS
  have l2 : (numBytes s.length 2).length = 2 := numBytes_length _ _
  have e1 : (numBytes s.length 2 ++ s ++ r).take 2 = numBytes s.length 2 := by
    rw [List.append_assoc, List.take_append_of_le_length (by omega), List.take_of_length_le (by omega)]
  have e2 : (numBytes s.length 2 ++ s ++ r).drop 2 = s ++ r := by
    rw [List.append_assoc, List.drop_append_of_le_length (by omega), List.drop_of_length_le (by omega), List.nil_append]
  rw [e1, e2, readNat_two _ (by omega)]
  rw [if_neg (by simp [l2]), if_neg (by omega), if_neg (by simp)]
  simp
theorem textB_long (s r : List UInt8) (h : 4000 < s.length) (h2 : s.length < 65536) : textB (textS s ++ r) = .error 2 := by
  unfold textB textS
  have l2 : (numBytes s.length 2).length = 2 := numBytes_length _ _
  have e1 : (numBytes s.length 2 ++ s ++ r).take 2 = numBytes s.length 2 := by
    rw [List.append_assoc, List.take_append_of_le_length (by omega), List.take_of_length_le (by omega)]
  rw [e1, readNat_two _ (by omega)]
  rw [if_neg (by simp [l2]), if_pos (by omega)]
theorem sidesS_length (l : List ByteArray) (h : ∀ s ∈ l, s.size = 32) : (sidesS l).length = 32 * l.length := by
  induction l with
  | nil => rfl
  | cons a l ih =>
    have h1 := h a (by simp)
    have h2 := ih (fun s hs => h s (by simp [hs]))
    have e : sidesS (a :: l) = a.data.toList ++ sidesS l := rfl
    have e3 : a.data.toList.length = a.size := by simp
    rw [e, List.length_append, h2, e3, h1, List.length_cons]
    omega
theorem sidesB_sides (l : List ByteArray) (r : List UInt8) (h : ∀ s ∈ l, s.size = 32) : sidesB l.length (sidesS l ++ r) = l := by
  induction l generalizing r with
  | nil => rfl
  | cons a l ih =>
    have h1 := h a (by simp)
    have e : sidesS (a :: l) = a.data.toList ++ sidesS l := rfl
    have e3 : a.data.toList.length = 32 := by simp; exact h1
    have ih' := ih r (fun s hs => h s (by simp [hs]))
    unfold sidesB at ih' ⊢
    rw [List.length_cons, List.range_succ_eq_map, List.map_cons, List.map_map, e]
    congr 1
    · rw [Nat.mul_zero, List.drop_zero, List.append_assoc, List.take_append_of_le_length (by omega), List.take_of_length_le (by omega), strB_of]
    · refine Eq.trans ?_ ih'
      apply List.map_congr_left
      intro i _
      show strB (((a.data.toList ++ sidesS l ++ r).drop (32 * (i + 1))).take 32) = _
      have : (a.data.toList ++ sidesS l ++ r).drop (32 * (i + 1)) = (sidesS l ++ r).drop (32 * i) := by
        rw [show 32 * (i + 1) = a.data.toList.length + 32 * i by rw [e3]; omega, List.append_assoc, List.drop_length_add_append]
      rw [this]

/-- A proof that may be. -/
def Fits (p : Prf) : Prop := (∀ s ∈ p.side, s.size = 32) ∧ p.side.length ≤ 256 ∧ p.kind.toNat ≤ 2 ∧ p.key.size ≤ 4000 ∧ p.row.length ≤ 4000 ∧ (p.kind ≠ 2 → p.key = ByteArray.empty) ∧ (p.kind = 0 → p.row = [])

theorem decB_head (l : List ByteArray) (r : List UInt8) (hs : ∀ s ∈ l, s.size = 32) (hl : l.length < 65536) :
    decB (numBytes l.length 2 ++ sidesS l ++ r) = if 256 < l.length then .error 2 else endB l r := by
  unfold decB
  have l2 : (numBytes l.length 2).length = 2 := numBytes_length _ _
  have e1 : (numBytes l.length 2 ++ sidesS l ++ r).take 2 = numBytes l.length 2 := by
    rw [List.append_assoc, List.take_append_of_le_length (by omega), List.take_of_length_le (by omega)]
  have e2 : (numBytes l.length 2 ++ sidesS l ++ r).drop 2 = sidesS l ++ r := by
    rw [List.append_assoc, List.drop_append_of_le_length (by omega), List.drop_of_length_le (by omega), List.nil_append]
  have hS := sidesS_length l hs
  rw [e1, e2, readNat_two _ hl]
  rw [if_neg (by simp [l2])]
  by_cases h : 256 < l.length
  · rw [if_pos h, if_pos h]
  · rw [if_neg h, if_neg h, if_neg (by rw [List.length_append, hS]; omega), sidesB_sides l r hs]
    congr 1
    rw [List.drop_append_of_le_length (by omega), List.drop_of_length_le (by omega), List.nil_append]

theorem kind_three {k : UInt8} (h : k.toNat ≤ 2) : k = 0 ∨ k = 1 ∨ k = 2 := by
  have : k.toNat = 0 ∨ k.toNat = 1 ∨ k.toNat = 2 := by omega
  rcases this with h | h | h
  · exact .inl (UInt8.toNat_inj.1 (by simpa using h))
  · exact .inr (.inl (UInt8.toNat_inj.1 (by simpa using h)))
  · exact .inr (.inr (UInt8.toNat_inj.1 (by simpa using h)))

theorem decB_enc (p : Prf) (h : Fits p) : decB (encB p) = .ok p := by
  obtain ⟨h1, h2, h3, h4, h5, h6, h7⟩ := h
  unfold encB
  rw [decB_head p.side _ h1 (by omega), if_neg (by omega)]
  obtain ⟨side, kind, key, row⟩ := p
  have hk : key.data.toList.length ≤ 4000 := by simpa using h4
  rcases kind_three h3 with rfl | rfl | rfl
  · have e1 : key = ByteArray.empty := h6 (show (0 : UInt8) ≠ 2 by decide)
    have e2 : row = [] := h7 rfl
    subst e1 e2
    simp [endB, endS, lastB]
  · have e1 : key = ByteArray.empty := h6 (show (1 : UInt8) ≠ 2 by decide)
    subst e1
    have t := textB_text row [] h5
    rw [List.append_nil] at t
    simp [endB, endS, rowB, t, lastB]
  · have t := textB_text row [] h5
    rw [List.append_nil] at t
    have t2 := textB_text key.data.toList (textS row) hk
    simp [endB, endS, otherB, rowB, t, t2, lastB, strB_of]

/-- Of so many sides and so long a row. -/
theorem decB_many (l : List ByteArray) (row : List UInt8) (hs : ∀ s ∈ l, s.size = 32) (hl : l.length < 65536) (hr : row.length < 65536) :
    decB (encB ⟨l, 1, ByteArray.empty, row⟩) = if 256 < l.length ∨ 4000 < row.length then .error 2 else .ok ⟨l, 1, ByteArray.empty, row⟩ := by
  unfold encB
  rw [decB_head l _ hs hl]
  by_cases h : 256 < l.length
  · rw [if_pos h, if_pos (.inl h)]
  · rw [if_neg h]
    by_cases h2 : 4000 < row.length
    · rw [if_pos (.inr h2)]
      have t := textB_long row [] h2 hr
      rw [List.append_nil] at t
      simp [endB, endS, rowB, t]
    · rw [if_neg (by omega)]
      have t := textB_text row [] (by omega)
      rw [List.append_nil] at t
      simp [endB, endS, rowB, t, lastB]

/-! ### what is read fits -/
theorem textB_fits {l s r : List UInt8} (h : textB l = .ok (s, r)) : s.length ≤ 4000 := by
  unfold textB at h
  split at h
  · cases h
  · split at h
    · cases h
    · split at h
      · cases h
      · cases h
        rw [List.length_take]
        omega
theorem lastB_ok {p p' : Prf} {l : List UInt8} (h : lastB p l = .ok p') : p' = p := by
  unfold lastB at h
  split at h
  · exact (Except.ok.inj h).symm
  · cases h
theorem rowB_ok {s : List ByteArray} {k : UInt8} {key : ByteArray} {l : List UInt8} {p : Prf} (h : rowB s k key l = .ok p) : ∃ row, p = ⟨s, k, key, row⟩ ∧ row.length ≤ 4000 := by
  unfold rowB at h
  split at h
  · cases h
  · rename_i row r ht
    exact ⟨row, lastB_ok h, textB_fits ht⟩
theorem otherB_ok {s : List ByteArray} {k : UInt8} {l : List UInt8} {p : Prf} (h : otherB s k l = .ok p) : ∃ key row, p = ⟨s, k, key, row⟩ ∧ row.length ≤ 4000 ∧ key.size ≤ 4000 := by
  unfold otherB at h
  split at h
  · cases h
  · rename_i key r ht
    obtain ⟨row, rfl, h2⟩ := rowB_ok h
    exact ⟨_, row, rfl, h2, by rw [strB_size]; exact textB_fits ht⟩
theorem endB_fits {s : List ByteArray} {l : List UInt8} {p : Prf} (h : endB s l = .ok p) (hs : ∀ x ∈ s, x.size = 32) (hl : s.length ≤ 256) : Fits p := by
  cases l with
  | nil => cases h
  | cons k r =>
    simp only [endB] at h
    split at h
    · cases h
    · split at h
      · rename_i h1 h2
        obtain ⟨key, row, rfl, h3, h4⟩ := otherB_ok h
        subst h2
        exact ⟨hs, hl, (show (2 : UInt8).toNat ≤ 2 by decide), h4, h3, fun e => absurd rfl e, fun e => by cases e⟩
      · split at h
        · rename_i h1 h2 h3
          obtain ⟨row, rfl, h3'⟩ := rowB_ok h
          subst h3
          exact ⟨hs, hl, (show (1 : UInt8).toNat ≤ 2 by decide), (show ByteArray.empty.size ≤ 4000 by decide), h3', fun _ => rfl, fun e => by cases e⟩
        · rename_i h1 h2 h3
          obtain rfl := lastB_ok h
          exact ⟨hs, hl, (show k.toNat ≤ 2 by omega), (show ByteArray.empty.size ≤ 4000 by decide), by simp, fun _ => rfl, fun _ => rfl⟩
theorem sidesB_size (n : Nat) (l : List UInt8) (h : 32 * n ≤ l.length) : ∀ x ∈ sidesB n l, x.size = 32 := by
  intro x hx
  unfold sidesB at hx
  obtain ⟨i, hi, rfl⟩ := List.mem_map.1 hx
  have := List.mem_range.1 hi
  rw [strB_size, List.length_take, List.length_drop]
  omega
theorem decB_fits {q : List UInt8} {p : Prf} (h : decB q = .ok p) : Fits p := by
  unfold decB at h
  split at h
  · cases h
  · split at h
    · cases h
    · split at h
      · cases h
      · exact endB_fits h (sidesB_size _ _ (by omega)) (by rw [sidesB_length]; omega)
end Go.Proofs.YtdhhaibefifdmaaGreatDoor
