/- The walks of a proof's reader, further: count, kind. -/
import Derived.Test.YtcfjciencggflaaDoorPrfC
set_option linter.unusedVariables false
set_option linter.unusedSimpArgs false
namespace Go.Proofs.YtcfjciencggflaaDoor
open Go.RowKit PrintLast

/-- A number of two bytes, not above m: the number, and what is left. -/
def cntB (m : Nat) (l : List UInt8) : Except Nat Nat := if l.length < 2 then .error 3 else if m < readNat (l.take 2) then .error 2 else .ok (readNat (l.take 2))
/-- What count leaves. -/
def Counted (w : World) (b N m : Nat) (l : List UInt8) (x : Ending) (w' : World) : Prop :=
  Keeps (fun k => k = b) w w' ∧ ((∃ e, cntB m l = .error e ∧ (e = 2 ∨ e = 3) ∧ x = .returned (.int .i64 0) ∧ ES w' b e) ∨ (∃ n, cntB m l = .ok n ∧ n ≤ m ∧ x = .returned (.int .i64 (n : Int)) ∧ RS w' b N (l.drop 2)))

set_option maxHeartbeats 1600000 in
theorem count_err {w : World} {b e : Nat} {m : Int} (h : ES w b e) (he : 0 < e) (he2 : e ≤ 3) :
    Calls Tryd.prog 66 #[.pointer (some ⟨b, 0, none⟩), .int .i64 m] w fun x w' => x = .returned (.int .i64 0) ∧ w = w' := by
  have HT := hid (take_err (n := 2) h he he2)
  obtain ⟨v, h1⟩ := h
  have c1 := cell_at h1 (i := 1) (v := .int .i64 (e : Int)) rfl
  have t1 : ((e : Int) == 0) = false := by rw [beq_eq_false_iff_ne]; omega
  have t2 : ((e : Int) != 0) = true := by rw [bne_iff_ne]; omega
  clear h1
  go_enter Tryd.func66, Tryd.ntmps66
  go_wp2_with fail
  refine HT.out.mono ?_
  rintro x w1 ⟨rfl, rfl⟩
  go_wp2
  go_loopw [11] (fun i wr => i = .int .i64 0 ∧ w = wr) (fun _ _ => 0)
  case atStart => exact ⟨rfl, rfl⟩
  case round =>
    obtain ⟨rfl, rfl⟩ := hrel
    go_wp2
    go_ret
    exact ⟨rfl, rfl⟩

set_option maxHeartbeats 1600000 in
theorem count_short {w : World} {b k : Nat} {m : Int} (h : WS w b k) (hk : k < 2) :
    Calls Tryd.prog 66 #[.pointer (some ⟨b, 0, none⟩), .int .i64 m] w fun x w' => x = .returned (.int .i64 0) ∧ ES w' b 3 ∧ Keeps (fun k => k = b) w w' := by
  have HT := hid (take_short (n := 2) h hk (by omega))
  clear h
  go_enter Tryd.func66, Tryd.ntmps66
  go_wp2_with fail
  refine HT.out.mono ?_
  rintro x w1 ⟨rfl, hE, K1⟩
  have HE := hid hE
  obtain ⟨v, h1⟩ := hE
  have c1 := cell_at h1 (i := 1) (v := .int .i64 3) rfl
  clear h1 HT
  go_wp2
  go_loopw [11] (fun i wr => i = .int .i64 0 ∧ w1 = wr) (fun _ _ => 0)
  case atStart => exact ⟨rfl, rfl⟩
  case round =>
    obtain ⟨rfl, rfl⟩ := hrel
    go_wp2
    go_ret
    exact ⟨rfl, HE.out, K1⟩

set_option maxRecDepth 100000 in
set_option maxHeartbeats 3200000 in
theorem count_any {w : World} {b N m : Nat} {l : List UInt8} (h : RS w b N l) (hm : m ≤ 100000) :
    Calls Tryd.prog 66 #[.pointer (some ⟨b, 0, none⟩), .int .i64 (m : Int)] w (Counted w b N m l) := by
  by_cases hl : l.length < 2
  · refine (count_short h.ws hl).mono ?_
    rintro x w' ⟨rfl, h1, h2⟩
    exact ⟨h2, .inl ⟨3, by unfold cntB; rw [if_pos hl], .inr rfl, rfl, h1⟩⟩
  · have HT := hid (take_ok (n := 2) h (by omega) (by omega))
    have HLen := hid hl
    clear h hl
    go_enter Tryd.func66, Tryd.ntmps66
    go_wp2_with fail
    refine HT.out.mono ?_
    rintro x w1 ⟨A1, c1, rfl, r1, hR, K1⟩
    have lt : (l.take 2).length = 2 := by rw [List.length_take]; have := HLen.out; omega
    have hb1 := r1.bsa
    obtain ⟨g, o, rfl⟩ := hb1.place (by omega)
    obtain ⟨p, hp⟩ : ∃ p, p = l.take 2 := ⟨_, rfl⟩
    rw [← hp] at hb1 lt
    have HP := hid hp
    have LT := hid lt
    have HB := hid hb1
    have HR := hid hR
    clear HT r1 hp lt hb1 hR
    go_wp2
    go_loopw [5, 11] (fun v i wr => ∃ k : Nat, k ≤ 2 ∧ i = .int .i64 k ∧ v = .int .i64 (readNat (p.take k) : Int) ∧ w1 = wr) (fun _ i _ => 2 - (intOf i).toNat)
    case atStart => exact ⟨0, Nat.zero_le _, rfl, rfl, rfl⟩
    case round =>
      obtain ⟨k, hk, rfl, rfl, rfl⟩ := hrel
      by_cases hlt : k < 2
      · have t2 : decide ((k : Int) < 2) = true := by simp; omega
        have hkp : k < p.length := by rw [LT.out]; exact hlt
        have ck := HB.out.at_ k hkp
        have e1 : readNat (p.take (k + 1)) = 256 * readNat (p.take k) + p[k].toNat := by rw [List.take_succ_eq_append_getElem hkp, readNat_append]
        have b1 := readNat_lt k (p.take k) (by rw [List.length_take]; omega)
        have b2 : 256 ^ k ≤ 256 ^ 1 := Nat.pow_le_pow_right (by omega) (by omega)
        obtain ⟨u, hu⟩ : ∃ u, u = readNat (p.take k) := ⟨_, rfl⟩
        obtain ⟨y, hy⟩ : ∃ y, y = p[k].toNat := ⟨_, rfl⟩
        have hy2 : y < 256 := by rw [hy]; exact p[k].toNat_lt
        rw [← hu, ← hy] at e1
        rw [← hu] at b1 ⊢
        rw [← hy] at ck
        have hu2 : u < 16777216 := by omega
        have OB := or_byte
        have E1 := hid e1
        clear hu hy e1 b1 b2 hkp
        go_wp2
        go_roundw
        case rel => exact ⟨k + 1, by omega, by go_num, by rw [E1.out, Int.natCast_add, Int.natCast_mul]; rfl, trivial⟩
        case measure => simp [intOf]; omega
      · obtain rfl : k = 2 := by omega
        have HQ := hid (readNat_lt 2 (p.take 2) (by rw [List.length_take, LT.out]; rfl))
        have CN : Hid (cntB m l = if m < readNat (p.take 2) then .error 2 else .ok (readNat (p.take 2))) := hid (by
          unfold cntB
          rw [if_neg HLen.out, HP.out, List.take_take]
          simp)
        obtain ⟨u, hu⟩ : ∃ u, u = readNat (p.take 2) := ⟨_, rfl⟩
        rw [← hu] at HQ CN ⊢
        have hu4 : u < 65536 := by have := HQ.out; simpa using this
        obtain ⟨A, c, h1, h2, h3, h4⟩ := HR.out
        have q1 := cell_at h1 (i := 1) (v := .int .i64 0) rfl
        have f1 := free_at h1 1
        by_cases hbig : m < u
        · have t2 : decide ((m : Int) < (u : Int)) = true := by simp; omega
          have hs := heap_set (i := 1) (v := .int .i64 2) h1
          have FIN : Hid (Counted w b N m l (.returned (.int .i64 0)) (w1.setCell ⟨b, 1, none⟩ (.int .i64 2))) := hid ⟨K1.then (keeps_one w1 b 1 (.int .i64 2)) (fun _ _ e => e), .inl ⟨2, by rw [CN.out, if_pos hbig], .inl rfl, rfl, ⟨_, hs⟩⟩⟩
          clear h1 h2 h3 hs hu
          go_wp2
          go_ret
          exact FIN.out
        · have t2 : decide ((m : Int) < (u : Int)) = false := by simp; omega
          have FIN : Hid (Counted w b N m l (.returned (.int .i64 (u : Int))) w1) := hid ⟨K1, .inr ⟨u, by rw [CN.out, if_neg hbig], by omega, rfl, HR.out⟩⟩
          clear h1 h2 h3 hu
          go_wp2
          go_ret
          exact FIN.out

set_option maxHeartbeats 1600000 in
theorem kind_err {w : World} {b e : Nat} (h : ES w b e) (he : 0 < e) (he2 : e ≤ 3) :
    Calls Tryd.prog 68 #[.pointer (some ⟨b, 0, none⟩)] w fun x w' => x = .returned (.int .u8 0) ∧ w = w' := by
  have HT := hid (take_err (n := 1) h he he2)
  clear h
  go_enter Tryd.func68, Tryd.ntmps68
  go_wp2_with fail
  refine HT.out.mono ?_
  rintro x w1 ⟨rfl, rfl⟩
  go_wp2
  go_ret
  exact ⟨rfl, rfl⟩

/-- What kind leaves. -/
def Kinded (w : World) (b N : Nat) (l : List UInt8) (x : Ending) (w' : World) : Prop :=
  Keeps (fun k => k = b) w w' ∧ ((l = [] ∧ x = .returned (.int .u8 0) ∧ ES w' b 3) ∨ (∃ k r, l = k :: r ∧ 2 < k.toNat ∧ x = .returned (.int .u8 0) ∧ ES w' b 2) ∨ (∃ k r, l = k :: r ∧ k.toNat ≤ 2 ∧ x = .returned (.int .u8 (k.toNat : Int)) ∧ RS w' b N r))

set_option maxHeartbeats 1600000 in
theorem kind_any {w : World} {b N : Nat} {l : List UInt8} (h : RS w b N l) :
    Calls Tryd.prog 68 #[.pointer (some ⟨b, 0, none⟩)] w (Kinded w b N l) := by
  cases l with
  | nil =>
    have HT := hid (take_short (n := 1) h.ws (by simp) (by omega))
    clear h
    go_enter Tryd.func68, Tryd.ntmps68
    go_wp2_with fail
    refine HT.out.mono ?_
    rintro x w1 ⟨rfl, hE, K1⟩
    have FIN : Hid (Kinded w b N [] (.returned (.int .u8 0)) w1) := hid ⟨K1, .inl ⟨rfl, rfl, hE⟩⟩
    clear hE K1 HT
    go_wp2
    go_ret
    exact FIN.out
  | cons k r =>
    have HT := hid (take_ok (n := 1) h (by simp) (by omega))
    clear h
    go_enter Tryd.func68, Tryd.ntmps68
    go_wp2_with fail
    refine HT.out.mono ?_
    rintro x w1 ⟨A1, c1, rfl, r1, hR, K1⟩
    have hb1 := r1.bsa
    obtain ⟨g, o, rfl⟩ := hb1.place (by simp)
    have ck := hb1.at_ 0 (by simp)
    simp only [Nat.add_zero, List.take_succ_cons, List.take_zero, List.getElem_cons_zero] at ck
    have hk := k.toNat_lt
    have HR : Hid (RS w1 b N r) := hid (by simpa using hR)
    obtain ⟨A, c, h1, h2, h3, h4⟩ := HR.out
    have f1 := free_at h1 1
    have q1 := cell_at h1 (i := 1) (v := .int .i64 0) rfl
    by_cases hbig : 2 < k.toNat
    · have t2 : decide ((2 : Int) < (k.toNat : Int)) = true := by simp; omega
      have hs := heap_set (i := 1) (v := .int .i64 2) h1
      have FIN : Hid (Kinded w b N (k :: r) (.returned (.int .u8 0)) (w1.setCell ⟨b, 1, none⟩ (.int .i64 2))) := hid ⟨K1.then (keeps_one w1 b 1 (.int .i64 2)) (fun _ _ e => e), .inr (.inl ⟨k, r, rfl, hbig, rfl, ⟨_, hs⟩⟩)⟩
      clear h1 h2 h3 hs hR hb1 r1 HT K1
      go_wp2
      go_ret
      exact FIN.out
    · have t2 : decide ((2 : Int) < (k.toNat : Int)) = false := by simp; omega
      have FIN : Hid (Kinded w b N (k :: r) (.returned (.int .u8 (k.toNat : Int))) w1) := hid ⟨K1, .inr (.inr ⟨k, r, rfl, by omega, rfl, HR.out⟩)⟩
      clear h1 h2 h3 hR hb1 r1 HT K1
      go_wp2
      go_ret
      exact FIN.out
end Go.Proofs.YtcfjciencggflaaDoor
