/- The walks of the references' Num and Read. -/
import Derived.Test.YtdhhaibefifdmaaGreatDoorRef01
set_option linter.unusedVariables false
set_option linter.unusedSimpArgs false
namespace Go.Proofs.YtdhhaibefifdmaaGreatDoor
open Go.RowKit PrintLast

/-- A slice of the call's own (from B on) that holds the bytes l. -/
def Row (w : World) (B : Nat) (A : Option Addr) (c : Nat) (l : List UInt8) : Prop := w.ownsRow B 5 1 (.slice A l.length c) l.length (bytesV l)
theorem Row.nil (w : World) (B : Nat) : Row w B none 0 [] := World.ownsRow_nil _ _ _ _
theorem Row.bsa {w : World} {B c : Nat} {A : Option Addr} {l : List UInt8} (h : Row w B A c l) : BSA w A c l := (own_bsa h).2.2
theorem Row.below {w w' : World} {B c : Nat} {A : Option Addr} {l : List UInt8} (h : Row w B A c l) (hb : Below w.heap.size w w') : Row w' B A c l := below_own hb h
theorem Row.lower {w : World} {B B' c : Nat} {A : Option Addr} {l : List UInt8} (h : Row w B A c l) (hB : B' ≤ B) : Row w B' A c l := by
  refine ⟨h.1, ?_⟩
  rcases h.2 with k | ⟨g, cap, cur, e, hb, r⟩
  · exact .inl k
  · exact .inr ⟨g, cap, cur, e, Nat.le_trans hB hb, r⟩
theorem Made.row {w w' : World} {A : Option Addr} {c n : Nat} {l : List UInt8} (h : Made w w' (.slice A n c) l) (hn : n = l.length) : Row w' w.heap.size A c l := by
  subst hn
  obtain ⟨h1, h2, h3⟩ := h
  refine ⟨h1.1, ?_⟩
  rcases h1.2 with k | ⟨g, cap, cur, e, hb, r⟩
  · exact .inl k
  · exact .inr ⟨g, cap, cur, e, h2 g (by rw [e]; rfl), r⟩

theorem infU8' : (Tryz.prog.info? 5).map (fun i => (i.zero, i.size, i.bytes)) = some (some (.int .u8 0), 1, 1) := by kernel_rfl
/-- 'append' onto such a slice, of bytes that lie somewhere. -/
theorem wpList_appR {w : World} {ops : Array Oper} {rest : List Oper} {o : Oper} {a : Act} {Q : Exit → Act → World → Prop} (hgd : o.guard = none) (s x : Operand)
    (ho : o.op = .call { callee := .builtin .append, args := #[s, x], argTypes := #[22, 22] }) (B : Nat) (hB : B ≤ w.heap.size)
    (R : Option Addr) (c : Nat) (l : List UInt8) (hs : a.eval s = .slice R l.length c) (hR : Row w B R c l) (ad : Addr) (c2 : Nat) (q : List UInt8) (hx : a.eval x = .slice (some ad) q.length c2) (hb : BSA w (some ad) c2 q)
    (h47 : l.length + q.length ≤ 140737488355328) (n : Nat) (hn : l.length + q.length = n)
    (h : ∀ R' c' w', Row w' B R' c' (l ++ q) → Below B w w' → Keeps (fun k => ∃ ad, R = some ad ∧ ad.block = k) w w' → (R' = none → q = []) → wpList Tryz.prog ops Q rest (a.put o.dst (.slice R' n c')) w') : wpList Tryz.prog ops Q (o :: rest) a w := by
  subst hn
  obtain ⟨i0, hi, hz0, hz1, hz2⟩ := info_parts infU8'
  obtain ⟨n1, n2, n3⟩ := bsa_news hb
  refine wpList_append_own w hgd s x 22 ho B 5 i0 (.int .u8 0) 1 1 Tryz.underlying22 hi hz0 hz1 hz2 rfl (by decide) _ l.length (bytesV l) hs hR ad q.length c2 (bytesV q) hx n1 (n3 ad rfl) (bytesV_one _) (by unfold maxLen; omega) (by omega) hB ?_
  intro v' w' k1 k2 k3
  have hform : ∃ A' c', v' = .slice A' (l.length + q.length) c' := by
    rcases k1.2 with ⟨e, h0⟩ | ⟨g', cap', cur', e', _⟩
    · rw [e, h0]; exact ⟨_, _, rfl⟩
    · exact ⟨_, _, e'⟩
  obtain ⟨A', c', rfl⟩ := hform
  refine h A' c' w' (by unfold Row; rw [bytesV_append, List.length_append]; exact k1) ((Below.refl B w).grown k2 hB (fun k hk => (hR.lt k hk).1)) ((Keeps.refl _ w).grown k2 (fun k hk _ => by
    cases R with
    | none => cases hk
    | some ad => simp only [Value.ownBlock, Option.some.injEq] at hk; exact ⟨ad, rfl, hk⟩)) (fun e => ?_)
  subst e
  rcases k1.2 with ⟨e, h0⟩ | ⟨g', cap', cur', e', _⟩
  · exact List.eq_nil_of_length_eq_zero (by omega)
  · cases e'

/-- So many bytes of a number, the highest first. -/
def numBytes (n m : Nat) : List UInt8 := (List.range m).map fun j => UInt8.ofNat (n / 2 ^ (8 * (m - 1 - j)))
theorem numBytes_length (n m : Nat) : (numBytes n m).length = m := by simp [numBytes]
theorem numBytes_next (n m k : Nat) (h : k < m) : (numBytes n m).take (k + 1) = (numBytes n m).take k ++ [UInt8.ofNat (n / 2 ^ (8 * (m - 1 - k)))] := by
  rw [List.take_succ_eq_append_getElem (by rw [numBytes_length]; exact h)]
  congr 2
  simp only [numBytes, List.getElem_map, List.getElem_range]
theorem byte_div (n m : Nat) : ((n : Int) / 2 ^ m) % 256 = ((UInt8.ofNat (n / 2 ^ m)).toNat : Int) := by
  rw [UInt8.toNat_ofNat']
  simp
theorem lit_bsa (w : World) (x : UInt8) : BSA (w.alloc (.cells #[.int .u8 (x.toNat : Int)] 5)) (some ⟨w.heap.size, 0, none⟩) 1 [x] := by
  refine ⟨by simp, by unfold maxLen; omega, (fun e => by cases e), fun ad e j hj => ?_⟩
  cases e
  have hj0 : j = 0 := by simp at hj; omega
  subst hj0
  rw [add_plain]
  exact cell_at (heap_alloc_new w _) rfl

set_option maxHeartbeats 800000 in
theorem num_any {w : World} {n m : Nat} (hm : m ≤ 8) :
    Calls Tryz.prog 100 #[.int .u64 (n : Int), .int .i64 (m : Int)] w fun e w' => ∃ A c, e = .returned (.slice A m c) ∧ Row w' w.heap.size A c (numBytes n m) ∧ (0 < m → A ≠ none) ∧ Below w.heap.size w w' := by
  go_enter Tryz.func100, Tryz.ntmps100
  go_wp2
  go_loopw [5, 6] (fun v i wr => ∃ (k : Nat) (A : Option Addr) (c : Nat), k ≤ m ∧ i = .int .i64 k ∧ v = .slice A k c ∧ Row wr w.heap.size A c ((numBytes n m).take k) ∧ (0 < k → A ≠ none) ∧ Below w.heap.size w wr) (fun _ i _ => m - (intOf i).toNat)
  case atStart => exact ⟨0, none, 0, Nat.zero_le _, rfl, rfl, Row.nil _ _, by omega, Below.refl _ _⟩
  case round =>
    obtain ⟨k, A, c, hk, rfl, rfl, hR, hA, hb⟩ := hrel
    by_cases hlt : k < m
    · have tk : decide ((k : Int) < (m : Int)) = true := by simp; omega
      obtain ⟨sh, hsh⟩ : ∃ s, s = 8 * (m - 1 - k) := ⟨_, rfl⟩
      have hs64 : sh < 64 := by omega
      have e1 : 8 * ((m : Int) - 1 - (k : Int)) = (sh : Int) := by omega
      have w1 : wrap64 ((m : Int) - 1) = (m : Int) - 1 := by unfold wrap64; omega
      have w2 : wrap64 ((m : Int) - 1 - (k : Int)) = (m : Int) - 1 - (k : Int) := by unfold wrap64; omega
      have w3 : wrap64 (sh : Int) = (sh : Int) := by unfold wrap64; omega
      have HN := numBytes_next n m k hlt
      rw [← hsh] at HN
      have Bf := byte_div n sh
      obtain ⟨x, hx⟩ : ∃ x, x = UInt8.ofNat (n / 2 ^ sh) := ⟨_, rfl⟩
      rw [← hx] at HN Bf
      have HN' := hid HN
      have hl : ((numBytes n m).take k).length = k := by rw [List.length_take, numBytes_length]; omega
      have sB := hb.size
      have hRa := hR.below (below_alloc (Below.refl _ wr) (.cells #[.int .u8 (x.toNat : Int)] 5))
      have hba := hb.alloc sB (.cells #[.int .u8 (x.toNat : Int)] 5)
      clear HN hx hsh
      go_wp2_with (refine wpList_appR rfl (.tmp 12) (.tmp 21) rfl w.heap.size (Nat.le_trans sB (below_alloc (Below.refl _ wr) (.cells #[.int .u8 (x.toNat : Int)] 5)).size) A c ((numBytes n m).take k) (by rw [hl]; rfl) hRa _ 1 [x] rfl (lit_bsa wr x) (by rw [hl]; simp; omega) (k + 1) (by rw [hl]; rfl) ?_)
      intro R' c' w' h1 h2 _ h3
      rw [← HN'.out] at h1
      go_wp2
      exact ⟨⟨k + 1, R', c', by omega, by go_num, rfl, h1, (fun _ e => by have := h3 e; simp at this), hba.trans h2⟩, by simp [intOf]; omega⟩
    · obtain rfl : k = m := by omega
      have tk : decide ((k : Int) < (k : Int)) = false := by simp
      rw [List.take_of_length_le (by rw [numBytes_length]; exact Nat.le_refl _)] at hR
      go_wp2
      go_ret
      exact ⟨A, c, rfl, hR, hA, hb⟩

/-- The number that bytes spell, the highest first. -/
def readNat (l : List UInt8) : Nat := l.foldl (fun n b => 256 * n + b.toNat) 0
theorem readNat_append (l : List UInt8) (b : UInt8) : readNat (l ++ [b]) = 256 * readNat l + b.toNat := by simp [readNat]
theorem readNat_lt : ∀ (n : Nat) (l : List UInt8), l.length = n → readNat l < 256 ^ n
  | 0, l, h => by
    obtain rfl := List.eq_nil_of_length_eq_zero h
    simp [readNat]
  | n + 1, l, h => by
    obtain ⟨m, b, rfl⟩ : ∃ m b, l = m ++ [b] := ⟨l.dropLast, l.getLast (by intro e; simp [e] at h), (List.dropLast_concat_getLast _).symm⟩
    have := readNat_lt n m (by simpa using h)
    have := b.toNat_lt
    rw [readNat_append, Nat.pow_succ]
    omega

set_option maxHeartbeats 800000 in
theorem readN_any {w : World} {A : Option Addr} {c : Nat} {l : List UInt8} (h : BSA w A c l) (hl : l.length ≤ 8) :
    Calls Tryz.prog 101 #[.slice A l.length c] w fun e w' => e = .returned (.int .u64 (readNat l : Int)) ∧ w = w' := by
  go_enter Tryz.func101, Tryz.ntmps101
  go_wp2
  go_loopw [3, 4] (fun v i wr => ∃ k : Nat, k ≤ l.length ∧ i = .int .i64 k ∧ v = .int .u64 (readNat (l.take k) : Int) ∧ w = wr) (fun _ i _ => l.length - (intOf i).toNat)
  case atStart => exact ⟨0, Nat.zero_le _, rfl, rfl, rfl⟩
  case round =>
    obtain ⟨k, hk, rfl, rfl, rfl⟩ := hrel
    by_cases hlt : k < l.length
    · have tk : decide ((k : Int) < (l.length : Int)) = true := by simp; omega
      obtain ⟨ad, rfl, cx⟩ := h.cell k hlt
      have e1 : readNat (l.take (k + 1)) = 256 * readNat (l.take k) + l[k].toNat := by rw [List.take_succ_eq_append_getElem hlt, readNat_append]
      have b1 := readNat_lt k (l.take k) (by simp; omega)
      have b2 : 256 ^ k ≤ 256 ^ 7 := Nat.pow_le_pow_right (by omega) (by omega)
      have b3 := l[k].toNat_lt
      obtain ⟨r, hr⟩ : ∃ r, r = readNat (l.take k) := ⟨_, rfl⟩
      obtain ⟨x, hx⟩ : ∃ x, x = l[k] := ⟨_, rfl⟩
      rw [← hr] at e1 b1 ⊢
      rw [← hx] at e1 b3 cx
      have q1 : (256 * (r : Int)) % 18446744073709551616 = 256 * (r : Int) := by omega
      have q2 : (256 * (r : Int) + (x.toNat : Int)) % 18446744073709551616 = 256 * (r : Int) + (x.toNat : Int) := by omega
      have E1 := hid e1
      have q3 : (x.toNat : Int) % 18446744073709551616 = (x.toNat : Int) := by omega
      clear hr hx e1 b1 b2
      go_wp2
      exact ⟨⟨k + 1, hlt, by go_num, by rw [E1.out]; simp, trivial⟩, by simp [intOf]; omega⟩
    · have tk : decide ((k : Int) < (l.length : Int)) = false := by simp; omega
      rw [List.take_of_length_le (by omega)]
      go_wp2
      go_ret
      exact ⟨rfl, rfl⟩
end Go.Proofs.YtdhhaibefifdmaaGreatDoor
