/- What came in, opened: bytes; lists of bytes' kind. -/
import Derived.Test.YtnidgljkbmceaaaGreatDoorG00
import Derived.Test.YtnidgljkbmceaaaGreatDoorChecked
import Derived.ProofKit
import Derived.OpenShut
import Derived.Deep.Slices
import Derived.Deep.Strs
set_option linter.unusedVariables false
set_option linter.unusedSimpArgs false
namespace Go.Proofs.YtnidgljkbmceaaaGreatDoor
open Go.RowKit Go.ChangeShapes Go.WideShapes Go.Deep

section
variable {H : Type} {enc : TypeId × Value → H} {w : World} {base : Nat} {spare : Nat → Bool} {held : Bool}

theorem u8_of_int {z : Int} (h : (Lit.int .u8 z).wf = true) : ((UInt8.ofNat z.toNat).toNat : Int) = z := by
  have h' := bounds_u8 h
  rw [UInt8.toNat_ofNat']
  omega

theorem open_bytes' {fuel : Nat} {cs : List Value} {x : DataW H × List MemPlace} (h : DataW.trod enc Tryz.prog w base spare held fuel 36 cs = some x) : ∃ (l : List UInt8) (a : Option Addr) (cap : Nat), cs = [.slice a l.length cap] ∧ BSA w a cap l := by
  rcases open_ints Tryz.underlying36 Tryz.underlying5 (by kernel_rfl) h with ⟨hcs, _⟩ | ⟨ad, len, cap, zs, hcs, _, hl, hm, hz, _, hcell, hwz⟩
  · exact ⟨[], none, 0, hcs, BSA.nil w⟩
  · have hzl : len ≤ zs.length := by rw [hz]; split <;> omega
    have hlen : ((zs.take len).map fun z => UInt8.ofNat z.toNat).length = len := by simp; omega
    refine ⟨(zs.take len).map fun z => UInt8.ofNat z.toNat, some ad, cap, by rw [hlen]; exact hcs, by omega, hm, (fun e => by cases e), fun ad' e j hj => ?_⟩
    cases e
    have hj' : j < len := by omega
    rw [hcell j (by omega)]
    have hg : zs.getD j 0 = zs[j]'(by omega) := by simp [List.getD, show j < zs.length by omega]
    simp only [List.getElem_map, List.getElem_take]
    rw [u8_of_int (hwz _ (List.getElem_mem _)), hg]
theorem open_bytes {fuel : Nat} {a : Option Addr} {len cap : Nat} {x : DataW H × List MemPlace} (h : DataW.trod enc Tryz.prog w base spare held fuel 36 [.slice a len cap] = some x) : ∃ l : List UInt8, l.length = len ∧ BSA w a cap l := by
  obtain ⟨l, a', cap', e, hb⟩ := open_bytes' h
  simp at e
  obtain ⟨rfl, rfl, rfl⟩ := e
  exact ⟨l, rfl, hb⟩
end
end Go.Proofs.YtnidgljkbmceaaaGreatDoor
