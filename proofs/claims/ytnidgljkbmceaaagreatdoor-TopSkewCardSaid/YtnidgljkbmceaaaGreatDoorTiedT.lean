/- What the listed variable gives a walk: the table of the rounds' numbers. -/
import Derived.Test.YtnidgljkbmceaaaGreatDoorTie
import Derived.Test.YtnidgljkbmceaaaGreatDoorG30
import Derived.ProofKit
import Derived.LaidMore
import Derived.OpenShut
import Derived.Stop.Joined
set_option linter.unusedVariables false
set_option linter.unusedSimpArgs false
namespace Go.Proofs.YtnidgljkbmceaaaGreatDoor
open Go.ChangeShapes Go.WideShapes Go.ChangeAt Go.WideMaps Go.WideElems Go.RowKit

set_option maxRecDepth 100000 in
theorem gRound : Tryz.prog.globalNamed "countinghouse/sha.round" = some 1 := by kernel_rfl
set_option maxRecDepth 100000 in
theorem tRound : (Tryz.prog.globals[1]?).map (·.type) = some 184 := by kernel_rfl
/-- All that the row lists. -/
def allLaid : List (String × DataW Unit) := [("unicode/utf8.acceptRanges", Rows.laid_unicode_utf8_acceptRanges), ("errors.errorType", Rows.laid_errors_errorType), ("countinghouse/sha.round", Rows.laid_countinghouse_sha_round), ("unicode/utf8.first", Rows.laid_unicode_utf8_first)]
def plainLaid : List (String × DataW Unit) := [("unicode/utf8.acceptRanges", Rows.laid_unicode_utf8_acceptRanges), ("countinghouse/sha.round", Rows.laid_countinghouse_sha_round), ("unicode/utf8.first", Rows.laid_unicode_utf8_first)]
def greatLaid : List (String × DataW Unit) := [("unicode/utf8.first", Rows.laid_unicode_utf8_first)]
def smallLaid : List (String × DataW Unit) := [("unicode/utf8.acceptRanges", Rows.laid_unicode_utf8_acceptRanges), ("countinghouse/sha.round", Rows.laid_countinghouse_sha_round)]
theorem plain_of : (allLaid.filter fun x => x.2.handleName?.isNone) = plainLaid := by kernel_rfl
theorem handle_of : (allLaid.filter fun x => x.2.handleName?.isSome) = [("errors.errorType", Rows.laid_errors_errorType)] := by kernel_rfl
theorem plain_met {W : World} (h : laidMetH Tryz.prog allLaid W) : laidMet Tryz.prog plainLaid W := by
  unfold laidMetH at h
  rw [handle_of] at h
  have h1 := h.1
  rwa [plain_of] at h1
set_option maxRecDepth 100000 in
theorem of_laid {W : World} (h : laidMetH Tryz.prog allLaid W) : Table W := by
  obtain ⟨ps, ⟨_, _, _, _, _, _, _, _, _, _, ⟨g0, t0, cs0, f0, p0, q0, hg0, ht0, hv0, hd0, _⟩, _⟩, _, _⟩ := plain_met h
  obtain rfl := Option.some.inj (gRound.symm.trans hg0)
  obtain rfl := Option.some.inj (tRound.symm.trans ht0)
  obtain ⟨xs, m, rfl, hx, hlen, hn, hel⟩ := DataW.trod_array Tryz.underlying184 hd0
  have hL : xs.map (·.1) = roundK.map fun x => DataW.lit (.int .u32 (x.toNat : Int)) := (DataW.agg.inj (Prod.mk.inj hx).1).symm
  have c1 : Tryz.prog.cellsOf 183 = 1 := by kernel_rfl
  have c64 : Tryz.prog.cellsOf 184 = 64 := by kernel_rfl
  rw [c64] at hlen
  have hcs : cs0 = u32s roundK := by
    apply Array.ext'
    apply List.ext_getElem
    · rw [hlen]; rfl
    · intro j h1 h2
      have hj : j < 64 := by omega
      have hj' : j < xs.length := by omega
      have he := hel j hj
      rw [c1, List.getElem?_eq_getElem hj', Nat.mul_one] at he
      obtain ⟨z, e1, e2, _⟩ := DataW.trod_int Tryz.underlying183 he
      have h3 : (xs.map (·.1))[j]'(by simpa using hj') = (roundK.map fun x => DataW.lit (.int .u32 (x.toNat : Int)))[j]'(by rw [List.length_map]; exact hj) := by simp only [hL]
      rw [List.getElem_map, List.getElem_map, e2] at h3
      have hz : z = ((roundK[j]'(show j < roundK.length from hj)).toNat : Int) := by
        injection h3 with h4
        injection h4
      have h5 : cs0.toList[j] = .int .u32 z := by
        have : (cs0.toList.drop j).take 1 = [cs0.toList[j]] := by
          rw [List.take_one]
          simp [show j < cs0.toList.length by omega]
        rw [this] at e1
        simpa using e1
      rw [h5, hz]
      simp [u32s]
  have hcell : ∃ t fr, W.heap[1]? = some (.cells cs0 t fr) := by
    unfold World.var? at hv0
    rw [gRound] at hv0
    simp only [Option.bind_some] at hv0
    split at hv0
    · rename_i cs t fr heq
      cases hv0
      exact ⟨t, fr, heq⟩
    · cases hv0
  obtain ⟨t, fr, hc⟩ := hcell
  exact ⟨t, fr, by rw [hc, hcs]⟩
end Go.Proofs.YtnidgljkbmceaaaGreatDoor
