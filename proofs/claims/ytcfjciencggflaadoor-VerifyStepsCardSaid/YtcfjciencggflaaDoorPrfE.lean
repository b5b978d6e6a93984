/- A proof's reader, as a state that may have failed: its plain law, and its walks. -/
import Derived.Test.YtcfjciencggflaaDoorPrfD
set_option linter.unusedVariables false
set_option linter.unusedSimpArgs false
namespace Go.Proofs.YtcfjciencggflaaDoor
open Go.RowKit PrintLast

/-- What is ahead of a reader, or its error. -/
abbrev RO := Except Nat (List UInt8)
def takeO (n : Nat) : RO → List UInt8 × RO
  | .error e => ([], .error e)
  | .ok l => if l.length < n then ([], .error 3) else (l.take n, .ok (l.drop n))
def countO (m : Nat) : RO → Nat × RO
  | .error e => (0, .error e)
  | .ok l => match cntB m l with
    | .error e => (0, .error e)
    | .ok n => (n, .ok (l.drop 2))
def kindO : RO → UInt8 × RO
  | .error e => (0, .error e)
  | .ok [] => (0, .error 3)
  | .ok (k :: r) => if 2 < k.toNat then (0, .error 2) else (k, .ok r)
def sidesO : Nat → RO → List ByteArray × RO
  | 0, o => ([], o)
  | k + 1, o => ((sidesO k o).1 ++ [strB (takeO 32 (sidesO k o).2).1], (takeO 32 (sidesO k o).2).2)
theorem sidesO_length (k : Nat) (o : RO) : (sidesO k o).1.length = k := by
  induction k with
  | zero => rfl
  | succ k ih => simp [sidesO, ih]
/-- What stands at the end: the key, the row, what is left. -/
def restO (k : UInt8) (o : RO) : ByteArray × List UInt8 × RO :=
  if k = 2 then (strB (takeO (countO 4000 o).1 (countO 4000 o).2).1,
    (takeO (countO 4000 (takeO (countO 4000 o).1 (countO 4000 o).2).2).1 (countO 4000 (takeO (countO 4000 o).1 (countO 4000 o).2).2).2).1,
    (takeO (countO 4000 (takeO (countO 4000 o).1 (countO 4000 o).2).2).1 (countO 4000 (takeO (countO 4000 o).1 (countO 4000 o).2).2).2).2)
  else if k = 1 then (⟨#[]⟩, (takeO (countO 4000 o).1 (countO 4000 o).2).1, (takeO (countO 4000 o).1 (countO 4000 o).2).2)
  else (⟨#[]⟩, [], o)
def lastO : RO → RO
  | .error e => .error e
  | .ok [] => .ok []
  | .ok (_ :: _) => .error 2
def progB (q : List UInt8) : Nat × Prf :=
  match lastO (restO (kindO (sidesO (countO 256 (.ok q)).1 (countO 256 (.ok q)).2).2).1 (kindO (sidesO (countO 256 (.ok q)).1 (countO 256 (.ok q)).2).2).2).2.2 with
  | .error e => (e, ⟨[], 0, ⟨#[]⟩, []⟩)
  | .ok _ => (0, ⟨(sidesO (countO 256 (.ok q)).1 (countO 256 (.ok q)).2).1, (kindO (sidesO (countO 256 (.ok q)).1 (countO 256 (.ok q)).2).2).1,
      (restO (kindO (sidesO (countO 256 (.ok q)).1 (countO 256 (.ok q)).2).2).1 (kindO (sidesO (countO 256 (.ok q)).1 (countO 256 (.ok q)).2).2).2).1,
      (restO (kindO (sidesO (countO 256 (.ok q)).1 (countO 256 (.ok q)).2).2).1 (kindO (sidesO (countO 256 (.ok q)).1 (countO 256 (.ok q)).2).2).2).2.1⟩)

/-! ### it reads as the document -/
theorem sidesO_err (k e : Nat) : (sidesO k (.error e)).2 = .error e := by
  induction k with
  | zero => rfl
  | succ k ih => simp [sidesO, ih, takeO]
theorem sidesO_ok (k : Nat) (l : List UInt8) (h : 32 * k ≤ l.length) : sidesO k (.ok l) = (sidesB k l, .ok (l.drop (32 * k))) := by
  induction k with
  | zero => simp [sidesO, sidesB]
  | succ k ih =>
    rw [sidesO, ih (by omega), sidesB_next]
    simp only [takeO]
    rw [if_neg (by rw [List.length_drop]; omega), List.drop_drop]
    rfl
theorem sidesO_short (k : Nat) (l : List UInt8) (h : l.length < 32 * k) : (sidesO k (.ok l)).2 = .error 3 := by
  induction k with
  | zero => omega
  | succ k ih =>
    by_cases h2 : l.length < 32 * k
    · rw [sidesO, ih h2]; rfl
    · rw [sidesO, sidesO_ok k l (by omega)]
      simp only [takeO]
      rw [if_pos (by rw [List.length_drop]; omega)]
theorem countO_textB (l : List UInt8) : (takeO (countO 4000 (.ok l)).1 (countO 4000 (.ok l)).2) = match textB l with
    | .error e => ([], .error e)
    | .ok (s, r) => (s, .ok r) := by
  unfold countO cntB textB
  by_cases h1 : l.length < 2
  · simp [h1, takeO]
  · by_cases h2 : 4000 < readNat (l.take 2)
    · simp only [if_neg h1, if_pos h2]; rfl
    · simp only [if_neg h1, if_neg h2, takeO]
      by_cases h3 : (l.drop 2).length < readNat (l.take 2)
      · simp only [if_pos h3]
      · simp only [if_neg h3]
theorem takeO_err (n e : Nat) : takeO n (.error e) = ([], .error e) := rfl
theorem countO_err (n e : Nat) : countO n (.error e) = (0, .error e) := rfl
theorem kindO_err (e : Nat) : kindO (.error e) = (0, .error e) := rfl
theorem restO_err (e : Nat) : (restO 0 (.error e)).2.2 = .error e := rfl
theorem progB_res (q : List UInt8) : progB q = resB q := by
  have fail : ∀ e, (sidesO (countO 256 (.ok q)).1 (countO 256 (.ok q)).2).2 = .error e → decB q = .error e → progB q = resB q := by
    intro e h1 h2
    unfold progB resB
    rw [h2, h1, kindO_err, restO_err]
    rfl
  by_cases h1 : q.length < 2
  · refine fail 3 ?_ (decB_short h1)
    have : countO 256 (.ok q) = (0, .error 3) := by simp [countO, cntB, h1]
    rw [this]; rfl
  · by_cases h2 : 256 < readNat (q.take 2)
    · refine fail 2 ?_ (decB_many_ h1 h2)
      have : countO 256 (.ok q) = (0, .error 2) := by simp only [countO, cntB, if_neg h1, if_pos h2]
      rw [this]; rfl
    · obtain ⟨m, hm⟩ : ∃ m, m = readNat (q.take 2) := ⟨_, rfl⟩
      have hc : countO 256 (.ok q) = (m, .ok (q.drop 2)) := by simp only [countO, cntB, if_neg h1, if_neg h2, hm]
      by_cases h3 : (q.drop 2).length < 32 * m
      · refine fail 3 ?_ ?_
        · rw [hc]; exact sidesO_short m _ h3
        · unfold decB; rw [if_neg h1, if_neg h2, ← hm, if_pos h3]
      · have hs := sidesO_ok m (q.drop 2) (by omega)
        have hd : decB q = endB (sidesB m (q.drop 2)) ((q.drop 2).drop (32 * m)) := by
          unfold decB; rw [if_neg h1, if_neg h2, ← hm, if_neg h3]
        unfold progB resB
        rw [hd, hc]
        simp only [hs]
        generalize sidesB m (q.drop 2) = LS
        generalize (q.drop 2).drop (32 * m) = l
        cases l with
        | nil => rfl
        | cons k r =>
          by_cases hk : 2 < k.toNat
          · rw [endB_form hk]
            simp only [kindO, if_pos hk]
            rfl
          · simp only [kindO, if_neg hk]
            rcases kind_three (k := k) (by omega) with rfl | rfl | rfl
            · rw [endB_none]
              cases r with
              | nil => rfl
              | cons a r => rfl
            · rw [endB_own]
              have e1 : restO 1 (.ok r) = (⟨#[]⟩, (takeO (countO 4000 (.ok r)).1 (countO 4000 (.ok r)).2).1, (takeO (countO 4000 (.ok r)).1 (countO 4000 (.ok r)).2).2) := rfl
              rw [e1, countO_textB]
              unfold rowB
              cases textB r with
              | error e => rfl
              | ok x =>
                obtain ⟨s, r2⟩ := x
                cases r2 with
                | nil => rfl
                | cons a r2 => rfl
            · rw [endB_other]
              have e1 : restO 2 (.ok r) = (strB (takeO (countO 4000 (.ok r)).1 (countO 4000 (.ok r)).2).1,
                (takeO (countO 4000 (takeO (countO 4000 (.ok r)).1 (countO 4000 (.ok r)).2).2).1 (countO 4000 (takeO (countO 4000 (.ok r)).1 (countO 4000 (.ok r)).2).2).2).1,
                (takeO (countO 4000 (takeO (countO 4000 (.ok r)).1 (countO 4000 (.ok r)).2).2).1 (countO 4000 (takeO (countO 4000 (.ok r)).1 (countO 4000 (.ok r)).2).2).2).2) := rfl
              rw [e1, countO_textB]
              unfold otherB
              cases textB r with
              | error e => rfl
              | ok x =>
                obtain ⟨s, r2⟩ := x
                simp only []
                rw [countO_textB]
                unfold rowB
                cases textB r2 with
                | error e => rfl
                | ok y =>
                  obtain ⟨s2, r3⟩ := y
                  cases r3 with
                  | nil => rfl
                  | cons a r3 => rfl

/-! ### the walks -/
/-- A reader in memory. -/
def RSt (w : World) (b N : Nat) : RO → Prop
  | .error e => (e = 2 ∨ e = 3) ∧ ES w b e
  | .ok l => RS w b N l
theorem RSt.move {w w' : World} {b N : Nat} {o : RO} (h : RSt w b N o) (hb : Below N w w') (hh : w'.heap[b]? = w.heap[b]?) : RSt w' b N o := by
  cases o with
  | error e =>
    obtain ⟨h1, v, h2⟩ := h
    exact ⟨h1, v, hh.trans h2⟩
  | ok l => exact RS.move h hb hh
theorem RSt.below {w w' : World} {b N : Nat} {o : RO} (h : RSt w b N o) (hb : Below w.heap.size w w') : RSt w' b N o := by
  cases o with
  | error e => exact ⟨h.1, h.2.below hb⟩
  | ok l => exact RS.below h hb
theorem RSt.cells {w : World} {b N : Nat} {o : RO} (h : RSt w b N o) : ∃ v : Value, ∃ e : Nat, w.heap[b]? = some (.cells #[v, .int .i64 (e : Int)] 111 (0, 0)) ∧ (∀ e', o = .error e' → e' = e ∧ (e = 2 ∨ e = 3)) ∧ (∀ l, o = .ok l → e = 0 ∧ ∃ A c, v = .slice A l.length c ∧ l.length ≤ 9223372036854775807) := by
  cases o with
  | error e =>
    obtain ⟨h1, v, h2⟩ := h
    exact ⟨v, e, h2, fun e' he => by cases he; exact ⟨rfl, h1⟩, fun l hl => by cases hl⟩
  | ok l =>
    obtain ⟨A, c, h1, h2, _⟩ := h
    exact ⟨.slice A l.length c, 0, h1, (fun e' he => by cases he), (fun l' hl => by cases hl; exact ⟨rfl, A, c, rfl, h2.le⟩)⟩

/-- What take leaves. -/
def TookU (w : World) (b N n : Nat) (o : RO) (x : Ending) (w' : World) : Prop :=
  ∃ A' c' s, Hid (s = (takeO n o).1) ∧ x = .returned (.slice A' s.length c') ∧ Row w' w.heap.size A' c' s ∧ RSt w' b N (takeO n o).2 ∧ Keeps (fun k => k = b) w w'
theorem take_u {w : World} {b N n : Nat} {o : RO} (h : RSt w b N o) (hn : n ≤ 1000000) :
    Calls Tryd.prog 67 #[.pointer (some ⟨b, 0, none⟩), .int .i64 (n : Int)] w (TookU w b N n o) := by
  cases o with
  | error e =>
    refine (take_err h.2 (by rcases h.1 with h | h <;> omega) (by rcases h.1 with h | h <;> omega)).mono ?_
    rintro x w' ⟨rfl, rfl⟩
    exact ⟨none, 0, [], hid rfl, rfl, Row.nil _ _, h, Keeps.refl _ _⟩
  | ok l =>
    by_cases hl : l.length < n
    · refine (take_short (RS.ws h) hl hn).mono ?_
      rintro x w' ⟨rfl, h1, h2⟩
      have e1 : takeO n (.ok l) = ([], .error 3) := by simp [takeO, hl]
      exact ⟨none, 0, [], hid (by rw [e1]), rfl, Row.nil _ _, by rw [e1]; exact ⟨.inr rfl, h1⟩, h2⟩
    · refine (take_ok h (by omega) hn).mono ?_
      rintro x w' ⟨A', c', rfl, h1, h2, h3⟩
      have e1 : takeO n (.ok l) = (l.take n, .ok (l.drop n)) := by simp [takeO, hl]
      exact ⟨A', c', l.take n, hid (by rw [e1]), by rw [List.length_take, Nat.min_eq_left (by omega)], h1, by rw [e1]; exact h2, h3⟩

/-- What count leaves. -/
def CountedU (w : World) (b N m : Nat) (o : RO) (x : Ending) (w' : World) : Prop :=
  ∃ n : Nat, Hid (n = (countO m o).1) ∧ n ≤ m ∧ x = .returned (.int .i64 (n : Int)) ∧ RSt w' b N (countO m o).2 ∧ Keeps (fun k => k = b) w w'
theorem count_u {w : World} {b N m : Nat} {o : RO} (h : RSt w b N o) (hm : m ≤ 100000) :
    Calls Tryd.prog 66 #[.pointer (some ⟨b, 0, none⟩), .int .i64 (m : Int)] w (CountedU w b N m o) := by
  cases o with
  | error e =>
    refine (count_err h.2 (by rcases h.1 with h | h <;> omega) (by rcases h.1 with h | h <;> omega)).mono ?_
    rintro x w' ⟨rfl, rfl⟩
    exact ⟨0, hid rfl, Nat.zero_le _, rfl, h, Keeps.refl _ _⟩
  | ok l =>
    refine (count_any h hm).mono ?_
    rintro x w' ⟨h3, ⟨e, h1, h2, rfl, h4⟩ | ⟨n, h1, h2, rfl, h4⟩⟩
    · have e1 : countO m (.ok l) = (0, .error e) := by simp [countO, h1]
      exact ⟨0, hid (by rw [e1]), Nat.zero_le _, rfl, by rw [e1]; exact ⟨h2, h4⟩, h3⟩
    · have e1 : countO m (.ok l) = (n, .ok (l.drop 2)) := by simp [countO, h1]
      exact ⟨n, hid (by rw [e1]), h2, rfl, by rw [e1]; exact h4, h3⟩

/-- What kind leaves. -/
def KindedU (w : World) (b N : Nat) (o : RO) (x : Ending) (w' : World) : Prop :=
  ∃ k : UInt8, Hid (k = (kindO o).1) ∧ k.toNat ≤ 2 ∧ x = .returned (.int .u8 (k.toNat : Int)) ∧ RSt w' b N (kindO o).2 ∧ Keeps (fun k => k = b) w w'
theorem kind_u {w : World} {b N : Nat} {o : RO} (h : RSt w b N o) :
    Calls Tryd.prog 68 #[.pointer (some ⟨b, 0, none⟩)] w (KindedU w b N o) := by
  cases o with
  | error e =>
    refine (kind_err h.2 (by rcases h.1 with h | h <;> omega) (by rcases h.1 with h | h <;> omega)).mono ?_
    rintro x w' ⟨rfl, rfl⟩
    exact ⟨0, hid rfl, by decide, rfl, h, Keeps.refl _ _⟩
  | ok l =>
    refine (kind_any h).mono ?_
    rintro x w' ⟨h3, ⟨rfl, rfl, h4⟩ | ⟨k, r, rfl, h2, rfl, h4⟩ | ⟨k, r, rfl, h2, rfl, h4⟩⟩
    · exact ⟨0, hid rfl, by decide, rfl, ⟨.inr rfl, h4⟩, h3⟩
    · have e1 : kindO (.ok (k :: r)) = (0, .error 2) := by simp [kindO, h2]
      exact ⟨0, hid (by rw [e1]), by decide, rfl, by rw [e1]; exact ⟨.inl rfl, h4⟩, h3⟩
    · have e1 : kindO (.ok (k :: r)) = (k, .ok r) := by simp only [kindO]; rw [if_neg (by omega)]
      exact ⟨k, hid (by rw [e1]), h2, rfl, by rw [e1]; exact h4, h3⟩
end Go.Proofs.YtcfjciencggflaaDoor
