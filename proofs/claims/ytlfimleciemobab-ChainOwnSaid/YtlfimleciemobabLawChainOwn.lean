/- ChainOwn: what was handed in, and answered, may be written over. -/
import Derived.Test.YtlfimleciemobabChainE
import Derived.Test.YtlfimleciemobabOpen
import Derived.Test.YtlfimleciemobabOver
set_option linter.unusedVariables false
set_option linter.unusedSimpArgs false
namespace Go.Proofs.Ytlfimleciemobab
open Go.RowKit PrintLast

set_option maxHeartbeats 1600000 in
theorem own_walk {w : World} {A : Option Addr} {c : Nat} {p : List UInt8} {b : Int} (hp : BSA w A c p) (hb : (Lit.int .u8 b).wf = true) :
    Calls Try.prog 3 #[.slice A p.length c, .int .u8 b] w fun e w' => e = .returned (.bool true) ∧ Below w.heap.size w w' := by
  obtain ⟨b, rfl⟩ : ∃ b8 : UInt8, b = (b8.toNat : Int) := ⟨UInt8.ofNat b.toNat, (u8_of_int hb).symm⟩
  clear hb
  by_cases h1 : 40 < p.length
  · have t1 : decide ((40 : Int) < (p.length : Int)) = true := by simp; omega
    go_enter Try.func3, Try.ntmps3
    go_wp2_with fail
    refine gone_any.mono ?_
    rintro e w1 ⟨rfl, hb1⟩
    go_wp2_with fail
    refine gone_any.mono ?_
    rintro e w2 ⟨rfl, hb2⟩
    go_wp2
    go_ret
    exact ⟨rfl, below_then hb1 hb2⟩
  · have t1 : decide ((40 : Int) < (p.length : Int)) = false := by simp; omega
    have hg : Good [⟨1, p, false⟩] 1 := ⟨by simp [Rising], fun v hv => by simp at hv; subst hv; exact ⟨Int.le_refl _, by show p.length ≤ _; omega⟩, by simp⟩
    have g1 : got [⟨1, p, false⟩] 1 = (p, true) := by simp [got, cnt]
    have g5 : got [⟨1, p, false⟩] 5 = (p, true) := by simp [got, cnt]
    have HG := hid hg
    have H1 := hid g1
    have H5 := hid g5
    clear hg g1 g5
    go_enter Try.func3, Try.ntmps3
    go_wp2_with fail
    refine gone_any.mono ?_
    rintro e w1 ⟨rfl, b1⟩
    have s1 := b1.size
    go_wp2_with fail
    refine new_any.mono ?_
    rintro e w2 ⟨rfl, d2, b2⟩
    have s2 := d2.2.1 _ d2.1
    have p2 := hp.below (below_then b1 b2)
    go_wp2_with fail
    refine (join_any p2 (BSA.nil w2) (by simp; omega)).mono ?_
    rintro e w3 ⟨Ax, cx, rfl, mx⟩
    have s3 := mx.2.2.size
    have b3 := below_then (below_then b1 b2) mx.2.2
    have ox : w3.ownsRow 0 5 1 (.slice Ax p.length cx) p.length (bytesV p) := by simpa using mx.1
    have bx : ∀ k, (Value.slice Ax p.length cx).ownBlock = some k → w1.heap.size < k ∧ k < w3.heap.size := fun k hk => ⟨by have := mx.2.1 k (by simpa using hk); omega, (ox.lt k hk).2⟩
    have x3 := (own_bsa ox).2.2
    have d3 := d2.below mx.2.2
    clear mx d2 b1 b2 p2
    go_wp2_with fail
    refine (put_yes d3 (by omega) x3 (by omega) (by simp)).mono ?_
    rintro e w4 ⟨rfl, F, d4, n4, k4⟩
    have s4 := k4.size
    have hF : ∀ k, F k → k = w1.heap.size ∨ w3.heap.size ≤ k := n4
    have ox4 : RowOf w4 5 (.slice Ax p.length cx) p.length := ⟨p, rfl, k4.own ox (fun k hk e => by have := bx k hk; omega)⟩
    have b4 : Below w.heap.size w w4 := b3.trans ⟨k4.os, k4.tape, k4.output, k4.size, fun k hk => k4.block k (by have := b3.size; omega) (fun e => by omega)⟩
    have bx' : ∀ k, (Value.slice Ax p.length cx).ownBlock = some k → w.heap.size ≤ k ∧ ¬ F k := fun k hk => ⟨by have := bx k hk; omega, fun e => by have := bx k hk; rcases hF k e with h | h <;> omega⟩
    replace d4 : ChainAt w4 F w1.heap.size [⟨1, p, false⟩] 1 := d4
    clear n4 k4 d3 x3 ox b3 bx
    obtain ⟨B, hB⟩ : ∃ B, B = w1.heap.size := ⟨_, rfl⟩
    rw [← hB] at d4
    simp only [← hB]
    clear hB hF
    go_wp2
    go_loopw [7] (fun i wr => ∃ k : Nat, k ≤ p.length ∧ i = .int .i64 k ∧ Below w.heap.size w wr ∧ RowOf wr 5 (.slice Ax p.length cx) p.length ∧ ChainAt wr F B [⟨1, p, false⟩] 1) (fun i _ => p.length - (intOf i).toNat)
    case atStart => exact ⟨0, Nat.zero_le _, rfl, b4, ox4, d4⟩
    case round =>
      clear b4 ox4 d4
      obtain ⟨k, hk, rfl, b6, ox6, d6⟩ := hrel
      by_cases hlt : k < p.length
      · obtain ⟨g, cur, rfl, _, hg, hc⟩ := ox6.form hlt
        have gb := bx' g rfl
        have c0 := cell_at hg (i := k) (v := cur[k]) (by simp)
        have f0 := free_at hg k
        have R := hid (show Below w.heap.size w (wr.setCell ⟨g, k, none⟩ (.int .u8 (b.toNat : Int))) ∧ RowOf (wr.setCell ⟨g, k, none⟩ (.int .u8 (b.toNat : Int))) 5 (.slice (some ⟨g, 0, none⟩) p.length cx) p.length ∧ ChainAt (wr.setCell ⟨g, k, none⟩ (.int .u8 (b.toNat : Int))) F B [⟨1, p, false⟩] 1 from
          ⟨b6.setCell (p := ⟨g, k, none⟩) gb.1 _, ox6.set b, d6.keeps (Keeps.cellOf wr g k _) (fun j hj e => gb.2 (e ▸ hj))⟩)
        clear b6 ox6 d6 hg
        go_wp2
        go_roundw
        case rel => exact ⟨k + 1, by omega, by go_num, R.out⟩
        case measure => simp [intOf]; omega
      · have G1 := get_any d6 HG.out.1 (by simp) (fun v hv => (HG.out.2.1 v hv).2) 1
        rw [H1.out] at G1
        have HG1 := hid G1
        have d6' := hid d6
        clear G1 d6 ox6
        go_wp2_with fail
        refine HG1.out.mono ?_
        rintro e w7 ⟨Az, cz, rfl, mz⟩
        have s6 := b6.size
        have s7 := mz.2.2.size
        have d7 := d6'.out.below mz.2.2
        have b7 := below_then b6 mz.2.2
        have oz : RowOf w7 5 (.slice Az p.length cz) p.length := ⟨p, rfl, mz.1⟩
        have bz : ∀ k, (Value.slice Az p.length cz).ownBlock = some k → w.heap.size ≤ k ∧ ¬ F k := fun k hk => ⟨by have := mz.2.1 k hk; omega, fun e => by have := mz.2.1 k hk; have := d6'.out.2.1 k e; omega⟩
        clear mz d6' b6 HG1 s6 s7
        go_wp2
        go_loopw [10] (fun i wr => ∃ k : Nat, k ≤ p.length ∧ i = .int .i64 k ∧ Below w.heap.size w wr ∧ RowOf wr 5 (.slice Az p.length cz) p.length ∧ ChainAt wr F B [⟨1, p, false⟩] 1) (fun i _ => p.length - (intOf i).toNat)
        case atStart => exact ⟨0, Nat.zero_le _, rfl, b7, oz, d7⟩
        case round =>
          clear b7 oz d7
          obtain ⟨k2, hk2, rfl, b8, oz8, d8⟩ := hrel
          by_cases hlt2 : k2 < p.length
          · obtain ⟨g, cur, rfl, _, hg, hc⟩ := oz8.form hlt2
            have gb := bz g rfl
            have c0 := cell_at hg (i := k2) (v := cur[k2]) (by simp)
            have f0 := free_at hg k2
            have R := hid (show Below w.heap.size w (wr.setCell ⟨g, k2, none⟩ (.int .u8 (b.toNat : Int))) ∧ RowOf (wr.setCell ⟨g, k2, none⟩ (.int .u8 (b.toNat : Int))) 5 (.slice (some ⟨g, 0, none⟩) p.length cz) p.length ∧ ChainAt (wr.setCell ⟨g, k2, none⟩ (.int .u8 (b.toNat : Int))) F B [⟨1, p, false⟩] 1 from
              ⟨b8.setCell (p := ⟨g, k2, none⟩) gb.1 _, oz8.set b, d8.keeps (Keeps.cellOf wr g k2 _) (fun j hj e => gb.2 (e ▸ hj))⟩)
            clear b8 oz8 d8 hg
            go_wp2
            go_roundw
            case rel => exact ⟨k2 + 1, by omega, by go_num, R.out⟩
            case measure => simp [intOf]; omega
          · have G5 := get_any d8 HG.out.1 (by simp) (fun v hv => (HG.out.2.1 v hv).2) 5
            rw [H5.out] at G5
            have HG5 := hid G5
            have p8 := hp.below b8
            clear G5 d8 oz8
            go_wp2_with fail
            refine HG5.out.mono ?_
            rintro e w9 ⟨A9, c9, rfl, m9⟩
            have BB := bytes_any m9.bsa (p8.below m9.2.2)
            rw [show decide (p = p) = true by simp] at BB
            have HB := hid BB
            clear BB HG5
            go_wp2_with fail
            refine HB.out.mono ?_
            rintro e wa ⟨rfl, ba⟩
            go_wp2
            go_ret
            exact ⟨rfl, below_then (below_then b8 m9.2.2) ba⟩
end Go.Proofs.Ytlfimleciemobab
