/- What the listed variable gives a walk: the table of the rounds' numbers. -/
import Derived.Test.YtcfjciencggflaaDoorTie
import Derived.Test.YtcfjciencggflaaDoorShaC
import Derived.ProofKit
import Derived.LaidMore
import Derived.OpenShut
import Derived.Stop.Joined
set_option linter.unusedVariables false
set_option linter.unusedSimpArgs false
namespace Go.Proofs.YtcfjciencggflaaDoor
open Go.ChangeShapes Go.WideShapes Go.ChangeAt Go.WideMaps Go.WideElems Go.RowKit

set_option maxRecDepth 100000 in
theorem gRound : Tryd.prog.globalNamed "countinghouse/sha.round" = some 0 := by kernel_rfl
set_option maxRecDepth 100000 in
theorem tRound : (Tryd.prog.globals[0]?).map (·.type) = some 57 := by kernel_rfl
set_option maxRecDepth 100000 in
/-- The door's own heap meets the condition. -/
theorem door_met (os : Os) (args : Array Value) : laidMetH Tryd.prog [("countinghouse/sha.round", Rows.laid_countinghouse_sha_round)] ((World.doorLaid Tryd.prog 400 os).forCall (fun _ _ => 0) ⟨#[], args, []⟩).memory :=
  laidMetH_of_parts3 (fuel := 8) (laidMet_of_run' 8 (by kernel_rfl) (by kernel_rfl)) (by kernel_rfl) (by kernel_rfl)
set_option maxRecDepth 100000 in
theorem of_laid {W : World} (h : laidMetH Tryd.prog [("countinghouse/sha.round", Rows.laid_countinghouse_sha_round)] W) : Table W := by
  rw [MakeChecks.laidMetH_plain _ _ _ (by kernel_rfl)] at h
  obtain ⟨ps, ⟨g0, t0, cs0, f0, p0, q0, hg0, ht0, hv0, hd0, _⟩, _, _⟩ := h
  obtain rfl := Option.some.inj (gRound.symm.trans hg0)
  obtain rfl := Option.some.inj (tRound.symm.trans ht0)
  obtain ⟨xs, m, rfl, hx, hlen, hn, hel⟩ := DataW.trod_array Tryd.underlying57 hd0
  have hL : xs.map (·.1) = roundK.map fun x => DataW.lit (.int .u32 (x.toNat : Int)) := (DataW.agg.inj (Prod.mk.inj hx).1).symm
  have c1 : Tryd.prog.cellsOf 56 = 1 := by kernel_rfl
  have c64 : Tryd.prog.cellsOf 57 = 64 := by kernel_rfl
  rw [c64] at hlen
  have hcs : cs0 = u32s roundK := by
    apply Array.ext'
    apply List.ext_getElem
    · rw [hlen]; rfl
    · intro j h1 h2
      have hj : j < 64 := by omega
      have hj' : j < xs.length := by omega
      have he := hel j hj
      rw [c1, List.getElem?_eq_getElem hj', Nat.mul_one] at he
      obtain ⟨z, e1, e2, _⟩ := DataW.trod_int Tryd.underlying56 he
      have h3 : (xs.map (·.1))[j]'(by simpa using hj') = (roundK.map fun x => DataW.lit (.int .u32 (x.toNat : Int)))[j]'(by rw [List.length_map]; exact hj) := by simp only [hL]
      rw [List.getElem_map, List.getElem_map, e2] at h3
      have hz : z = ((roundK[j]'(show j < roundK.length from hj)).toNat : Int) := by
        injection h3 with h4
        injection h4
      have h5 : cs0.toList[j] = .int .u32 z := by
        have : (cs0.toList.drop j).take 1 = [cs0.toList[j]] := by
          rw [List.take_one]
          simp [show j < cs0.toList.length by omega]
        rw [this] at e1
        simpa using e1
      rw [h5, hz]
      simp [u32s]
  have hcell : ∃ t fr, W.heap[0]? = some (.cells cs0 t fr) := by
    unfold World.var? at hv0
    rw [gRound] at hv0
    simp only [Option.bind_some] at hv0
    split at hv0
    · rename_i cs t fr heq
      cases hv0
      exact ⟨t, fr, heq⟩
    · cases hv0
  obtain ⟨t, fr, hc⟩ := hcell
  exact ⟨t, fr, by rw [hc, hcs]⟩
end Go.Proofs.YtcfjciencggflaaDoor
