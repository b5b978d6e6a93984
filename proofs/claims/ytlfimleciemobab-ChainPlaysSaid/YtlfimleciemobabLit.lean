/- Bytes that are laid out in a new block; what a call that makes bytes leaves. -/
import Derived.Test.YtlfimleciemobabRef01
import Derived.Lib.SlBytesConst
set_option linter.unusedVariables false
set_option linter.unusedSimpArgs false
namespace Go.Proofs.Ytlfimleciemobab
open Go.RowKit
theorem Made.bsa {w w' : World} {A : Option Addr} {n c : Nat} {l : List UInt8} (h : Made w w' (.slice A n c) l) : BSA w' A c l := (own_bsa h.1).2.2
theorem lit_bsa {w : World} {l : List UInt8} {fr : Nat × Nat} (h : l.length ≤ maxLen) : BSA (w.alloc (.cells (bytesV l).toArray 5 fr)) (some ⟨w.heap.size, 0, none⟩) l.length l :=
  ⟨Nat.le_refl _, h, (fun e => by cases e), fun ad e j hj => by
    cases e
    rw [add_plain]
    exact cell_at (heap_alloc_new _ _) (by simp [bytesV, hj])⟩
end Go.Proofs.Ytlfimleciemobab
