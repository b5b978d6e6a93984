/- ChainNil: of no chain. ChainErrs: a number that isn't above all that were changes nothing. -/
import Derived.Test.YtlfimleciemobabChainE
import Derived.OpenShut
import Derived.Deep.DeepCutAuto
import Derived.Deep.CutBlock
set_option linter.unusedVariables false
set_option linter.unusedSimpArgs false
namespace Go.Proofs.Ytlfimleciemobab
open Go.RowKit PrintLast

set_option maxHeartbeats 400000 in
theorem nil_walk {w : World} {x : Int} (_hx : (Lit.int .i64 x).wf = true) :
    Calls Try.prog 7 #[.int .i64 x] w fun e w' => e = .returned (.bool true) ∧ Below w.heap.size w w' := by
  go_enter Try.func7, Try.ntmps7
  go_wp2_with fail
  refine (get_nil x).mono ?_
  rintro e w1 ⟨rfl, b1⟩
  go_wp2_with fail
  refine gone_any.mono ?_
  rintro e w2 ⟨rfl, b2⟩
  go_wp2_with fail
  refine put_nil.mono ?_
  rintro e w3 ⟨rfl, rfl⟩
  go_wp2_with fail
  refine last_nil.mono ?_
  rintro e w3 ⟨rfl, rfl⟩
  go_wp2_with fail
  refine (trim_nil x).mono ?_
  rintro e w4 ⟨rfl, b4⟩
  go_wp2_with fail
  refine len_nil.mono ?_
  rintro e w5 ⟨rfl, rfl⟩
  go_wp2
  go_ret
  exact ⟨rfl, below_then (below_then b1 b2) b4⟩

/-- The chain behind the first Put of ChainErrs, and behind Trim. -/
def errs1 (a : Int) : List Ver × Int := if 0 < a then ([⟨a, [], true⟩], a) else ([], 0)
def errs2 (a : Int) (tr : Bool) : List Ver × Int := if tr then ((errs1 a).1.drop (trimN (errs1 a).1 a), (errs1 a).2) else errs1 a
theorem errs_good (a : Int) : Good (errs1 a).1 (errs1 a).2 := by
  unfold errs1
  split
  · exact ⟨by simp [Rising], by simp, by simp⟩
  · exact Good.nil
theorem errs2_good (a : Int) (tr : Bool) : Good (errs2 a tr).1 (errs2 a tr).2 := by
  unfold errs2
  split
  · exact (errs_good a).drop _
  · exact errs_good a
theorem errs2_last (a : Int) (tr : Bool) : (errs2 a tr).2 = if 0 < a then a else 0 := by
  unfold errs2 errs1
  split <;> split <;> rfl

set_option maxHeartbeats 1600000 in
theorem errs_walk {w : World} {a b : Int} {tr : Bool} (_ha : (Lit.int .i64 a).wf = true) (_hb : (Lit.int .i64 b).wf = true) :
    Calls Try.prog 4 #[.int .i64 a, .int .i64 b, .bool tr] w fun e w' => e = .returned (.bool true) ∧ Below w.heap.size w w' := by
  clear _ha _hb
  have kc := fun (w : World) (C : Array Value) (n c : Nat) => Lib.run_convert_bytes_const (P := Try.prog) w 22 5 C n c Try.underlying22 Try.underlying5
  obtain ⟨L, hL⟩ : ∃ L, L = (if 0 < a then a else (0 : Int)) := ⟨_, rfl⟩
  have HL := hid hL
  clear hL
  go_enter Try.func4, Try.ntmps4
  go_wp2_with fail
  refine (new_B (B := w.heap.size) (Nat.le_refl _)).mono ?_
  rintro e w1 ⟨c, rfl, d1, b1⟩
  have s1 := b1.size
  have P1 : Calls Try.prog 12 #[.pointer (some ⟨c, 0, none⟩), .int .i64 a, .slice none 0 0, .bool true] w1 fun e w' => e = .returned (.int .i64 (if 0 < a then 0 else 1)) ∧ ChainB w' w.heap.size c (errs1 a).1 (errs1 a).2 ∧ Below w.heap.size w1 w' := by
    by_cases h : 0 < a
    · rw [if_pos h]
      unfold errs1
      rw [if_pos h]
      exact put_B (row := []) s1 d1 h (BSA.nil w1) (by simp) (by simp)
    · rw [if_neg h]
      unfold errs1
      rw [if_neg h]
      exact (put_noB d1 (by omega)).mono fun e w' ⟨he, hw⟩ => by subst hw; exact ⟨he, d1, Below.refl _ _⟩
  obtain ⟨E1, hE1⟩ : ∃ E1 : Int, E1 = if 0 < a then 0 else 1 := ⟨_, rfl⟩
  rw [← hE1] at P1
  have HE1 := hid hE1
  have HP1 := hid P1
  clear P1 d1 hE1
  go_wp2_with fail
  refine HP1.out.mono ?_
  rintro e w2 ⟨rfl, d2, b2⟩
  have b12 := b1.trans b2
  have s2 := b12.size
  clear b1 b2 HP1
  go_upto_if 16 with fail
  go_cut [] (fun wx => ChainB wx w.heap.size c (errs2 a tr).1 (errs2 a tr).2 ∧ Below w.heap.size w wx)
  case first =>
    cases tr with
    | true =>
      have T := hid (trim_B (x := a) s2 d2 (errs_good a))
      go_wp2_with fail
      refine T.out.mono ?_
      rintro e w3 ⟨rfl, d3, b3⟩
      go_wp2_with fail
      go_meet
      exact ⟨d3, b12.trans b3⟩
    | false =>
      go_wp2_with fail
      go_meet
      exact ⟨d2, b12⟩
  case rest =>
    obtain ⟨d3, b3⟩ := hcut
    have hg := errs2_good a tr
    have hl := errs2_last a tr
    rw [← HL.out] at hl
    generalize errs2 a tr = E at *
    obtain ⟨vs, last⟩ := E
    simp only at d3 hg hl
    subst hl
    have s3 := b3.size
    generalize wc = w3 at *
    clear d2 b12
    have q1 : BSA (w3.alloc (.cells #[.int .u8 120] 5 (1, 2))) (some ⟨w3.heap.size, 0, none⟩) 1 [120] := lit_bsa (l := [120]) (by simp [maxLen])
    have P2 : Calls Try.prog 12 #[.pointer (some ⟨c, 0, none⟩), .int .i64 b, .slice (some ⟨w3.heap.size, 0, none⟩) 1 1, .bool false] (w3.alloc (.cells #[.int .u8 120] 5 (1, 2))) fun e w' => e = .returned (.int .i64 (if last < b then 0 else 1)) ∧ Below w.heap.size w w' := by
      by_cases h : last < b
      · rw [if_pos h]
        exact (put_B (B := w.heap.size) (row := [120]) (by simp; omega) (d3.below ((Below.refl _ _).alloc (Nat.le_refl _) _)) h q1 (by simp) hg.2.2).mono fun e w' ⟨he, _, hb⟩ => ⟨he, (b3.alloc s3 _).trans hb⟩
      · rw [if_neg h]
        exact (put_noB (d3.below ((Below.refl _ _).alloc (Nat.le_refl _) _)) (by omega)).mono fun e w' ⟨he, hw⟩ => by subst hw; exact ⟨he, b3.alloc s3 _⟩
    obtain ⟨E2, hE2⟩ : ∃ E2 : Int, E2 = if last < b then 0 else 1 := ⟨_, rfl⟩
    rw [← hE2] at P2
    have HE2 := hid hE2
    have HP2 := hid P2
    clear P2 q1 d3 hg b3 hE2
    by_cases h0 : 0 < a
    · have hd0 : decide (0 < a) = true := by simp [h0]
      obtain rfl : E1 = 0 := by rw [HE1.out, if_pos h0]
      obtain rfl : last = a := by rw [HL.out, if_pos h0]
      by_cases h1 : last < b
      · have hd1 : decide (last < b) = true := by simp [h1]
        obtain rfl : E2 = 0 := by rw [HE2.out, if_pos h1]
        go_wp2_with fail
        refine HP2.out.mono ?_
        rintro e w4 ⟨rfl, b4⟩
        go_wp2_with fail
        refine gone_any.mono ?_
        rintro e w5 ⟨rfl, b5⟩
        go_wp2
        go_ret
        exact ⟨rfl, below_then b4 b5⟩
      · have hd1 : decide (last < b) = false := by simp; omega
        obtain rfl : E2 = 1 := by rw [HE2.out, if_neg h1]
        go_wp2_with fail
        refine HP2.out.mono ?_
        rintro e w4 ⟨rfl, b4⟩
        go_wp2_with fail
        refine gone_any.mono ?_
        rintro e w5 ⟨rfl, b5⟩
        go_wp2
        go_ret
        exact ⟨rfl, below_then b4 b5⟩
    · have hd0 : decide (0 < a) = false := by simp; omega
      obtain rfl : E1 = 1 := by rw [HE1.out, if_neg h0]
      obtain rfl : last = 0 := by rw [HL.out, if_neg h0]
      by_cases h1 : 0 < b
      · have hd1 : decide (0 < b) = true := by simp [h1]
        obtain rfl : E2 = 0 := by rw [HE2.out, if_pos h1]
        go_wp2_with fail
        refine HP2.out.mono ?_
        rintro e w4 ⟨rfl, b4⟩
        go_wp2_with fail
        refine gone_any.mono ?_
        rintro e w5 ⟨rfl, b5⟩
        go_wp2
        go_ret
        exact ⟨rfl, below_then b4 b5⟩
      · have hd1 : decide (0 < b) = false := by simp; omega
        obtain rfl : E2 = 1 := by rw [HE2.out, if_neg h1]
        go_wp2_with fail
        refine HP2.out.mono ?_
        rintro e w4 ⟨rfl, b4⟩
        go_wp2_with fail
        refine gone_any.mono ?_
        rintro e w5 ⟨rfl, b5⟩
        go_wp2
        go_ret
        exact ⟨rfl, below_then b4 b5⟩
end Go.Proofs.Ytlfimleciemobab
