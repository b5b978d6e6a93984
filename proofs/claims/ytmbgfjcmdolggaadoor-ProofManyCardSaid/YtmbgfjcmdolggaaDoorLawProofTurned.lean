/- ProofTurned: a proof's bytes in which one is another one, that are cut, or go on. -/
import Derived.Test.YtmbgfjcmdolggaaDoorLawProofBack
import Derived.Test.YtmbgfjcmdolggaaDoorMade
set_option linter.unusedVariables false
set_option linter.unusedSimpArgs false
namespace Go.Proofs.YtmbgfjcmdolggaaDoor
open Go.RowKit PrintLast

theorem reads_n {w : World} {A : Option Addr} {c n : Nat} {q : List UInt8} (hn : q.length = n) (hq : BSA w A c q) (hb : n ≤ 1000000) :
    Calls Tryd.prog 21 #[.slice A n c] w fun e w' => e = .returned (.bool true) ∧ Below w.heap.size w w' := reads_any hn hq hb
set_option maxRecDepth 100000 in
set_option maxHeartbeats 12800000 in
theorem turned_walk {w : World} (hT : Table w) {A B M : Option Addr} {c d mc : Nat} {ps : List Part} {kd : UInt8} {key : ByteArray} {row more : List UInt8} {at' turn : Int} {cut : Bool} (hr : RawAt w A c ps key B d row) (ha : (Lit.int .u16 at').wf = true) (ht : (Lit.int .u8 turn).wf = true) (hM : BSA w M mc more) :
    Calls Tryd.prog 5 #[.agg #[.slice A ps.length c, .int .u8 (kd.toNat : Int), .string key, .slice B row.length d], .int .u16 at', .int .u8 turn, .bool cut, .slice M more.length mc] w fun e w' => e = .returned (.bool true) ∧ Below w.heap.size w w' := by
  obtain ⟨u, rfl⟩ : ∃ b8 : UInt8, turn = (b8.toNat : Int) := ⟨UInt8.ofNat turn.toNat, (u8_of_int ht).symm⟩
  have ha' := bounds_u16 ha
  obtain ⟨at', rfl⟩ : ∃ N : Nat, at' = (N : Int) := ⟨at'.toNat, by omega⟩
  have hat : at' < 65536 := by omega
  obtain ⟨n, hn⟩ : ∃ n, n = ps.length := ⟨_, rfl⟩
  obtain ⟨m, hm⟩ : ∃ m, m = row.length := ⟨_, rfl⟩
  obtain ⟨L, hL⟩ : ∃ L, L = more.length := ⟨_, rfl⟩
  rw [← hn, ← hm, ← hL]
  have hL2 : L ≤ 9223372036854775807 := by rw [hL]; exact hM.le
  have HN := hid (And.intro hn.symm hm.symm)
  have HL := hid hL
  have al := below_alloc (Below.refl _ w) (.cells #[.slice A n c, .int .u8 (kd.toNat : Int), .string key, .slice B m d] 25)
  have gb := hid (heap_alloc_new w (.cells #[.slice A n c, .int .u8 (kd.toNat : Int), .string key, .slice B m d] 25))
  have TT := hid (hT.below al)
  have RR := hid (hr.below al)
  have MM := hid (hM.below al)
  have BB := hid al
  obtain ⟨S, hS⟩ : ∃ S, S = w.heap.size := ⟨_, rfl⟩
  have HS := hid hS
  rw [← hS] at gb
  clear hn hm hL al hT hr hM hS ha ht ha'
  go_enter Tryd.func5, Tryd.ntmps5
  go_upto_region 1 with fail
  rw [← HS.out]
  generalize w.alloc (.cells #[.slice A n c, .int .u8 (kd.toNat : Int), .string key, .slice B m d] 25) = w0 at *
  have HC1 := hid (bare_any TT.out)
  go_wp2_with fail
  refine HC1.out.mono ?_
  rintro e w1 ⟨rfl, b1⟩
  clear HC1
  replace gb := hid (below_heap b1 gb.out)
  replace TT := hid (TT.out.below b1)
  replace RR := hid (RR.out.below b1)
  replace MM := hid (MM.out.below b1)
  replace BB := hid (below_then BB.out b1)
  clear b1
  obtain ⟨v0, v1, v2, v3, -, -, -, -⟩ := four gb.out
  have HC2 := hid (few_any (kd := kd) HN.out.1 HN.out.2 RR.out)
  go_wp2_with fail
  refine HC2.out.mono ?_
  rintro e w2 ⟨rfl, b2⟩
  clear HC2 v0 v1 v2 v3
  replace gb := hid (below_heap b2 gb.out)
  replace TT := hid (TT.out.below b2)
  replace RR := hid (RR.out.below b2)
  replace MM := hid (MM.out.below b2)
  replace BB := hid (below_then BB.out b2)
  clear b2
  by_cases hf : FewB ps key row
  · have hd : decide (FewB ps key row) = true := by simp [hf]
    rw [hd]
    have HF := hid hf
    have FP := hid (ofP_fits (kd := kd) hf)
    clear hd hf
    by_cases hl10 : 10 < L
    · have t1 : decide ((10 : Int) < (L : Int)) = true := by simp; omega
      have HC1 := hid (bare_any TT.out)
      go_wp2_with fail
      refine HC1.out.mono ?_
      rintro e w3 ⟨rfl, b3⟩
      clear HC1
      replace BB := hid (below_then BB.out b3)
      go_wp2
      go_ret
      exact ⟨rfl, BB.out⟩
    · have t1 : decide ((10 : Int) < (L : Int)) = false := by simp; omega
      obtain ⟨v0, v1, v2, v3, -, -, -, -⟩ := four gb.out
      have HC3 := hid (of_any (kd := kd) HN.out.1 HN.out.2 RR.out HF.out)
      go_wp2_with fail
      refine HC3.out.mono ?_
      rintro e w3 ⟨R, c3, B3, m3, d3, rfl, p3, b3⟩
      clear HC3 v0 v1 v2 v3
      replace gb := hid (below_heap b3 gb.out)
      replace TT := hid (TT.out.below b3)
      replace RR := hid (RR.out.below b3)
      replace MM := hid (MM.out.below b3)
      replace BB := hid (below_then BB.out b3)
      clear gb RR
      have PP := hid p3
      clear p3 b3
      obtain ⟨P, hP⟩ : ∃ P, P = ofP ps kd key row := ⟨_, rfl⟩
      rw [← hP] at PP FP ⊢
      clear hP
      have HC4 := hid (enc_any (c := c3) PP.out.1 PP.out.2.1 PP.out.2.2.2.1 PP.out.2.2.2.2 (fits_holds FP.out))
      go_wp2_with fail
      refine HC4.out.mono ?_
      rintro e w5 ⟨A5, c5, rfl, r5, b5⟩
      clear HC4
      replace TT := hid (TT.out.below b5)
      replace MM := hid (MM.out.below b5)
      replace PP := hid (PP.out.below b5)
      replace BB := hid (below_then BB.out b5)
      clear PP
      have eN := enc_length FP.out
      obtain ⟨Q, hQ⟩ : ∃ Q, Q = encB P ++ more := ⟨_, rfl⟩
      obtain ⟨N, hN⟩ : ∃ N, N = Q.length := ⟨_, rfl⟩
      have hN3 : 3 ≤ N := by rw [hN, hQ, List.length_append]; omega
      have hN2 : N ≤ 100010 := by rw [hN, hQ, List.length_append, ← HL.out]; omega
      have HQ := hid hN
      have J0 := hid (join_gave rfl HL.out.symm hQ.symm r5.bsa MM.out (by rw [← hN]; omega))
      clear r5 b5 hQ hN eN FP
      go_wp2_with fail
      refine J0.out.mono ?_
      rintro e w6 ⟨A6, c6, rfl, r6, b6⟩
      have BL : Hid (w.heap.size ≤ w5.heap.size) := hid BB.out.size
      clear J0
      clear MM
      replace TT := hid (TT.out.below b6)
      replace BB := hid (below_then BB.out b6)
      rw [← HQ.out]
      obtain ⟨g6, rfl⟩ := r6.place (by rw [← HQ.out]; omega)
      obtain ⟨cur, hg6, hcur, hbase⟩ := r6.heap
      have hc1 : N ≤ c6 := by rw [HQ.out]; exact r6.bsa.1
      have hc2 := r6.bsa.2.1
      unfold maxLen at hc2
      have t2 : ((N : Int) == 0) = false := by rw [beq_eq_false_iff_ne]; omega
      obtain ⟨k, hk⟩ : ∃ k, k = at' % N := ⟨_, rfl⟩
      have hkN : k < N := by rw [hk]; exact Nat.mod_lt _ (by omega)
      have e1 : (at' : Int) % (N : Int) = (k : Int) := by rw [hk]; rfl
      clear hk b6
      cases cut with
      | true =>
        have lk : (Q.take k).length = k := by rw [List.length_take, ← HQ.out]; omega
        have RD := hid (reads_n lk (r6.bsa.head k) (by omega))
        clear r6 hg6 hcur hbase lk
        go_wp2_with fail
        refine RD.out.mono ?_
        rintro e w7 ⟨rfl, b7⟩
        clear RD
        replace BB := hid (below_then BB.out b7)
        go_wp2
        go_ret
        exact ⟨rfl, BB.out⟩
      | false =>
        have ck := (r6.bsa.2.2.2 _ rfl k (by rw [← HQ.out]; exact hkN))
        rw [add_plain] at ck
        have fk := free_at hg6 k
        have R7 := r6.set k u
        have lk : (Q.set k u).length = N := by rw [List.length_set, HQ.out]
        have B7 : Below w.heap.size w (w6.setCell ⟨g6, k, none⟩ (.int .u8 (u.toNat : Int))) := BB.out.setCell (p := ⟨g6, k, none⟩) (show w.heap.size ≤ g6 by have := BL.out; omega) _
        have RD := hid (reads_n lk R7.bsa (by omega))
        have HB7 := hid B7
        clear r6 hg6 hcur hbase lk R7 B7
        have hkc : k < c6 := by omega
        go_wp2_with fail
        refine RD.out.mono ?_
        rintro e w7 ⟨rfl, b7⟩
        clear RD
        replace BB := hid (below_then HB7.out b7)
        go_wp2
        go_ret
        exact ⟨rfl, BB.out⟩
  · have hd : decide (FewB ps key row) = false := by simp [hf]
    rw [hd]
    clear hd hf
    have HC1 := hid (bare_any TT.out)
    go_wp2_with fail
    refine HC1.out.mono ?_
    rintro e w3 ⟨rfl, b3⟩
    clear HC1
    replace BB := hid (below_then BB.out b3)
    go_wp2
    go_ret
    exact ⟨rfl, BB.out⟩
end Go.Proofs.YtmbgfjcmdolggaaDoor
