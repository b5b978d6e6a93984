/- The walks of the two Bits. -/
import Derived.Test.YtdhhaibefifdmaaGreatDoorHex
set_option linter.unusedVariables false
set_option linter.unusedSimpArgs false
namespace Go.Proofs.YtdhhaibefifdmaaGreatDoor
open Go.RowKit PrintLast

/-- Bit i of the bytes l, from the highest on. -/
def bitOf (l : List UInt8) (i : Int) : Int := if i < 0 then 0 else if h : i.toNat / 8 < l.length then ((l[i.toNat / 8].toNat / 2 ^ (7 - i.toNat % 8) % 2 : Nat) : Int) else 0
theorem and_one (n : Nat) (h : n < 256) : bits .and .i64 (n : Int) 1 = ((n % 2 : Nat) : Int) := by
  show IntKind.i64.wrap ((BitVec.ofInt 64 (n : Int) &&& BitVec.ofInt 64 ((1 : Nat) : Int)).toNat : Int) = _
  rw [BitVec.toNat_and, ofInt_u64 n (by omega), ofInt_u64 1 (by omega), Nat.and_one_is_mod]
  have : n % 2 = 0 ∨ n % 2 = 1 := by omega
  rcases this with e | e <;> rw [e] <;> rfl

set_option maxRecDepth 100000 in
set_option maxHeartbeats 1600000 in
theorem bit_any {w : World} {s : ByteArray} {i : Int} (hs : s.data.toList.length ≤ 1000000000) (hi : -9223372036854775808 ≤ i ∧ i ≤ 9223372036854775807) :
    Calls Tryz.prog 35 #[.string s, .int .i64 i] w fun e w' => e = .returned (.int .i64 (bitOf s.data.toList i)) ∧ w = w' := by
  obtain ⟨l, hl⟩ : ∃ l, l = s.data.toList := ⟨_, rfl⟩
  have hz : (s.size : Int) = (l.length : Int) := by rw [hl]; simp
  have IS := hid (fun (k : Nat) (hk : k < l.length) (w : World) => show (Instr.index 9 (.string s) (.int .i64 (k : Int))).run Tryz.prog w = .ok (.int .u8 ((l[k]).toNat : Int)) w by subst hl; exact index_str s k hk)
  rw [← hl] at hs ⊢
  clear hl
  by_cases h0 : i < 0
  · have t0 : decide (i < 0) = true := by simp; omega
    have eb : bitOf l i = 0 := by unfold bitOf; rw [if_pos h0]
    rw [eb]
    go_enter Tryz.func35, Tryz.ntmps35
    go_wp2
    go_ret
    exact ⟨rfl, rfl⟩
  · obtain ⟨n, rfl⟩ : ∃ n : Nat, i = (n : Int) := ⟨i.toNat, by omega⟩
    obtain ⟨q, hq⟩ : ∃ q, q = n / 8 := ⟨_, rfl⟩
    have eq : (n : Int).tdiv 8 = (q : Int) := by rw [Int.tdiv_eq_ediv_of_nonneg (by omega)]; omega
    have t0 : decide ((n : Int) < 0) = false := by simp
    by_cases hlt : q < l.length
    · have tq : decide ((l.length : Int) ≤ (q : Int)) = false := by simp; omega
      have iq := IS.out q hlt
      have eb : bitOf l (n : Int) = (((l[q]).toNat / 2 ^ (7 - n % 8) % 2 : Nat) : Int) := by
        unfold bitOf
        rw [if_neg h0]
        simp only [Int.toNat_natCast, ← hq, hlt, dif_pos]
      rw [eb]
      obtain ⟨x, hx⟩ : ∃ x, x = l[q] := ⟨_, rfl⟩
      simp only [← hx] at iq ⊢
      have xl := x.toNat_lt
      obtain ⟨v, hv⟩ : ∃ v, v = x.toNat / 2 ^ (7 - n % 8) := ⟨_, rfl⟩
      have v256 : v < 256 := by rw [hv]; exact Nat.lt_of_le_of_lt (Nat.div_le_self _ _) xl
      have ev : (x.toNat : Int) / 2 ^ (7 - n % 8) = (v : Int) := by rw [hv]; simp
      have ea := and_one
      rw [← hv]
      clear hq hx hv eb h0
      go_enter Tryz.func35, Tryz.ntmps35
      go_wp2
      go_ret
      exact ⟨rfl, rfl⟩
    · have tq : decide ((l.length : Int) ≤ (q : Int)) = true := by simp; omega
      have eb : bitOf l (n : Int) = 0 := by
        unfold bitOf
        rw [if_neg h0]
        simp only [Int.toNat_natCast, ← hq]
        rw [dif_neg hlt]
      rw [eb]
      clear eb
      go_enter Tryz.func35, Tryz.ntmps35
      go_wp2
      go_ret
      exact ⟨rfl, rfl⟩

end Go.Proofs.YtdhhaibefifdmaaGreatDoor
