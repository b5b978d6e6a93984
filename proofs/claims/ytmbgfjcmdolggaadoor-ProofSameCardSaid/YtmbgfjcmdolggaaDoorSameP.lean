/- ProofSame, the plain part: a proof with one thing changed is another one. -/
import Derived.Test.YtmbgfjcmdolggaaDoorRawB
set_option linter.unusedVariables false
set_option linter.unusedSimpArgs false
namespace Go.Proofs.YtmbgfjcmdolggaaDoor
open Go.RowKit PrintLast

def strX : ByteArray := ⟨#[120]⟩
def strS : ByteArray := ⟨#[115]⟩
/-- One thing changed. -/
def tweak (p : Prf) (t : Nat) : Prf :=
  if t = 0 then { p with kind := p.kind + 1 } else if t = 1 then { p with key := p.key ++ strX } else if t = 2 then { p with row := p.row ++ [1] } else { p with side := p.side ++ [strS] }
theorem u8_succ_ne (k : UInt8) : k ≠ k + 1 := by
  intro e
  have h := congrArg UInt8.toNat e
  rw [UInt8.toNat_add] at h
  have := k.toNat_lt
  simp at h
  omega
theorem tweak_ne (p : Prf) (t : Nat) : sameB p (tweak p t) = false := by
  unfold sameB tweak
  split
  · simp only [decide_true, Bool.true_and, Bool.and_true]
    exact decide_eq_false (u8_succ_ne p.kind)
  · split
    · simp only [decide_true, Bool.true_and, Bool.and_true]
      refine decide_eq_false (fun e => ?_)
      have h := congrArg ByteArray.size e
      rw [ByteArray.size_append] at h
      have : strX.size = 1 := rfl
      omega
    · split
      · simp only [decide_true, Bool.true_and, Bool.and_true]
        refine decide_eq_false (fun e => ?_)
        have h := congrArg List.length e
        rw [List.length_append] at h
        simp at h
      · simp only [decide_true, Bool.true_and, Bool.and_true]
        refine decide_eq_false (fun e => ?_)
        have h := congrArg List.length e
        rw [List.length_append] at h
        simp at h
end Go.Proofs.YtmbgfjcmdolggaaDoor
