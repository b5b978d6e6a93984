/- The walks of Same of both, of like. -/
import Derived.Test.YtcfjciencggflaaDoorREnc
set_option linter.unusedVariables false
set_option linter.unusedSimpArgs false
namespace Go.Proofs.YtcfjciencggflaaDoor
open Go.RowKit PrintLast

def sameB (p q : Prf) : Bool := decide (p.side = q.side) && decide (p.kind = q.kind) && decide (p.key = q.key) && decide (p.row = q.row)
theorem sameB_self (p : Prf) : sameB p p = true := by simp [sameB]
/-- A proof that is read. -/
def PrfAt (w : World) (A : Option Addr) (n c : Nat) (B : Option Addr) (m d : Nat) (p : Prf) : Prop := p.side.length = n ∧ p.row.length = m ∧ n ≤ 1000000000 ∧ TxtAt w A p.side ∧ BSA w B d p.row
theorem PrfAt.below {w w' : World} {A B : Option Addr} {n c m d : Nat} {p : Prf} (h : PrfAt w A n c B m d p) (hb : Below w.heap.size w w') : PrfAt w' A n c B m d p :=
  ⟨h.1, h.2.1, h.2.2.1, h.2.2.2.1.below hb, h.2.2.2.2.below hb⟩
theorem alloc2 (w : World) (o1 o2 : Obj) : ((w.alloc o1).alloc o2).heap[w.heap.size]? = some o1 ∧ ((w.alloc o1).alloc o2).heap[w.heap.size + 1]? = some o2 ∧ Below w.heap.size w ((w.alloc o1).alloc o2) := by
  have s1 : (w.alloc o1).heap.size = w.heap.size + 1 := by simp
  have h1 := heap_alloc_new w o1
  have h2 := heap_alloc_new (w.alloc o1) o2
  rw [s1] at h2
  have b1 := below_alloc (Below.refl _ (w.alloc o1)) o2
  exact ⟨below_heap b1 h1, h2, below_alloc (below_alloc (Below.refl _ w) o1) o2⟩
theorem kind_bne {a b : UInt8} (h : a ≠ b) : ((a.toNat : Int) == (b.toNat : Int)) = false := by
  rw [beq_eq_false_iff_ne]
  intro e
  exact h (UInt8.toNat_inj.1 (by omega))
/-- Bytes that are alike, their numbers under names. -/
theorem bytes_n {w : World} {A B : Option Addr} {c d n m : Nat} {x y : List UInt8} (h1 : x.length = n) (h2 : y.length = m) (hx : BSA w A c x) (hy : BSA w B d y) :
    Calls Tryd.prog 22 #[.slice A n c, .slice B m d] w fun e w' => e = .returned (.bool (decide (x = y))) ∧ Below w.heap.size w w' := by
  subst h1 h2
  exact bytes_any hx hy

end Go.Proofs.YtcfjciencggflaaDoor
