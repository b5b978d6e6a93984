/- VerifyAny: any bytes are accepted just as the document does. -/
import Derived.Test.YtcfjciencggflaaDoorV2
set_option linter.unusedVariables false
set_option linter.unusedSimpArgs false
namespace Go.Proofs.YtcfjciencggflaaDoor
open Go.RowKit PrintLast

set_option maxRecDepth 100000 in
set_option maxHeartbeats 6400000 in
theorem any_walk {w : World} (hT : Table w) {digest key : ByteArray} {A B : Option Addr} {c d : Nat} {row p : List UInt8} {there : Bool} (hd : digest.size ≤ 140737488351232) (hk : key.size ≤ 140737488351232) (hr : BSA w A c row) (hp : BSA w B d p) :
    Calls Tryd.prog 3 #[.string digest, .string key, .slice A row.length c, .bool there, .slice B p.length d] w fun e w' => e = .returned (.bool true) ∧ Below w.heap.size w w' := by
  obtain ⟨r, hr0⟩ : ∃ r, r = row.length := ⟨_, rfl⟩
  obtain ⟨n, hn0⟩ : ∃ n, n = p.length := ⟨_, rfl⟩
  rw [← hr0, ← hn0]
  have r9 : r ≤ 9223372036854775807 := by rw [hr0]; exact hr.le
  have n9 : n ≤ 9223372036854775807 := by rw [hn0]; exact hp.le
  have TT := hid hT
  have HR := hid (And.intro hr0.symm hr)
  have HP := hid (And.intro hn0.symm hp)
  have HL := hid (vlink_any hT)
  clear hT hr hp hr0 hn0
  by_cases hg : 60 < digest.size ∨ 60 < key.size ∨ 60 < r ∨ 260 < n
  · obtain ⟨b1, b2, b3, b4, e1, e2, e3, e4, hb⟩ : ∃ b1 b2 b3 b4 : Bool, decide ((60 : Int) < (digest.size : Int)) = b1 ∧ decide ((60 : Int) < (key.size : Int)) = b2 ∧ decide ((60 : Int) < (r : Int)) = b3 ∧ decide ((260 : Int) < (n : Int)) = b4 ∧ (b1 || b2 || b3 || b4) = true := ⟨_, _, _, _, rfl, rfl, rfl, rfl, by
      simp only [Bool.or_eq_true, decide_eq_true_eq]
      omega⟩
    clear hg
    go_enter Tryd.func3, Tryd.ntmps3
    go_wp2_with fail
    refine HL.out.mono ?_
    rintro e w1 ⟨rfl, c1⟩
    have HL2 := hid (vlink_any (TT.out.below c1))
    have BB := hid c1
    clear HL c1
    cases b1 <;> cases b2 <;> cases b3 <;> cases b4 <;> first
      | exact absurd hb (by decide)
      | (clear hb
         go_wp2_with fail
         refine HL2.out.mono ?_
         rintro e w2 ⟨rfl, c2⟩
         have BF := below_then BB.out c2
         go_wp2
         go_ret
         exact ⟨rfl, BF⟩)
  · have e1 : decide ((60 : Int) < (digest.size : Int)) = false := by simp; omega
    have e2 : decide ((60 : Int) < (key.size : Int)) = false := by simp; omega
    have e3 : decide ((60 : Int) < (r : Int)) = false := by simp; omega
    have e4 : decide ((260 : Int) < (n : Int)) = false := by simp; omega
    have kb : key.size ≤ 60000 := by omega
    have nb : n ≤ 1000000 := by omega
    clear hg
    go_enter Tryd.func3, Tryd.ntmps3
    go_wp2_with fail
    refine HL.out.mono ?_
    rintro e w1 ⟨rfl, c1⟩
    replace TT := hid (TT.out.below c1)
    replace HR := hid (And.intro HR.out.1 (HR.out.2.below c1))
    replace HP := hid (And.intro HP.out.1 (HP.out.2.below c1))
    have BB := hid c1
    have HS := hid (rsteps_any (key := key) HP.out.1 HP.out.2 nb kb)
    clear HL c1
    go_wp2_with fail
    refine HS.out.mono ?_
    rintro e w2 ⟨R, N, c2, ok, ps, rfl, HV, L2, b2⟩
    replace TT := hid (TT.out.below b2)
    replace HR := hid (And.intro HR.out.1 (HR.out.2.below b2))
    replace HP := hid (And.intro HP.out.1 (HP.out.2.below b2))
    replace BB := hid (below_then BB.out b2)
    clear HS
    obtain ⟨acc, hacc⟩ : ∃ acc, acc = acceptB digest key row there p := ⟨_, rfl⟩
    have HA := hid hacc
    have LAST : Hid (∀ w3, Table w3 → BSA w3 B d p → Calls Tryd.prog 14 #[.string key, .slice B n d] w3 fun e w' => e = .returned (.bool true) ∧ Below w3.heap.size w3 w') := hid (fun w3 t3 p3 => vsteps_any t3 HP.out.1 p3 nb kb)
    have q1 : Hid (∀ w3, Table w3 → BSA w3 A c row → BSA w3 B d p → ∀ dg : ByteArray, Calls Tryd.prog 12 #[.string dg, .string key, .slice A r c, .bool there, .slice B n d] w3 fun e w' => e = .returned (.bool (acceptB dg key row there p)) ∧ Below w3.heap.size w3 w') := hid (fun w3 t3 r3 p3 dg => check_acc t3 HP.out.1 p3 nb kb HR.out.1 r3)
    have q2 : Hid (∀ w3, BSA w3 A c row → BSA w3 B d p → ∀ dg : ByteArray, Calls Tryd.prog 13 #[.string dg, .string key, .slice A r c, .bool there, .slice B n d] w3 fun e w' => e = .returned (.bool (acceptB dg key row there p)) ∧ Below w3.heap.size w3 w') := hid (fun w3 r3 p3 dg => rcheck_acc HP.out.1 p3 nb kb HR.out.1 r3)
    clear hacc
    have tt : (acc == acc) = true := beq_self_eq_true _
    cases ok with
    | false =>
      clear L2 b2
      have HV1 := hid (LAST.out w2 TT.out HP.out.2)
      go_wp2_with fail
      refine HV1.out.mono ?_
      rintro e w3 ⟨rfl, b3⟩
      replace TT := hid (TT.out.below b3)
      replace HR := hid (And.intro HR.out.1 (HR.out.2.below b3))
      replace HP := hid (And.intro HP.out.1 (HP.out.2.below b3))
      replace BB := hid (below_then BB.out b3)
      have HZ1 := hid (q1.out w3 TT.out HR.out.2 HP.out.2 digest)
      rw [← HA.out] at HZ1
      clear HV1 b3
      go_wp2_with fail
      refine HZ1.out.mono ?_
      rintro e w8 ⟨rfl, b8⟩
      replace HR := hid (And.intro HR.out.1 (HR.out.2.below b8))
      replace HP := hid (And.intro HP.out.1 (HP.out.2.below b8))
      replace BB := hid (below_then BB.out b8)
      have HZ2 := hid (q2.out w8 HR.out.2 HP.out.2 digest)
      rw [← HA.out] at HZ2
      clear HZ1 b8
      go_wp2_with fail
      refine HZ2.out.mono ?_
      rintro e w9 ⟨rfl, b9⟩
      have BF := below_then BB.out b9
      go_wp2
      go_ret
      exact ⟨by first | rfl | simp, BF⟩
    | true =>
      have hs0 : ∃ L, stepsP key p = some L := by
        cases hh : stepsP key p with
        | none => have := HV.out.2.1; rw [hh] at this; cases this
        | some L => exact ⟨L, rfl⟩
      obtain ⟨L, hs⟩ := hs0
      obtain ⟨x, hx, hL⟩ : ∃ x, readV p = some x ∧ stepsB key x.2.1 x.2.2 x.1 = L := by
        unfold stepsP at hs
        cases hh : readV p with
        | none => rw [hh] at hs; cases hs
        | some x => rw [hh] at hs; exact ⟨x, rfl, Option.some.inj hs⟩
      obtain ⟨top, rst, hup, hlen⟩ := stepsB_top key x.2.1 x.2.2 x.1
      obtain ⟨f1, f2, f3, f4⟩ := readV_fits hx
      have q3 := HV.out.2.2
      rw [hs, Option.getD_some, ← hL, hup] at q3
      have h0 : 0 < ps.length := by
        have := congrArg List.length q3
        rw [txs_length] at this
        rw [this]
        exact Nat.succ_pos _
      obtain ⟨g, rfl⟩ := L2.place h0
      have c0 := L2.cell 0 h0
      have e0 := L2.elem 0 h0
      have t0 : (ps[0]).2.2 = top := head_text q3 h0
      obtain ⟨a1, m2, d2, hv1, hm1⟩ : ∃ a m c, partV ps[0] = .slice a m c ∧ (ps[0]).2.2.length = m := ⟨_, _, _, rfl, rfl⟩
      have ev : (ps[0]).1 = a1 ∧ (ps[0]).2.1 = d2 := ⟨(Value.slice.inj hv1).1, (Value.slice.inj hv1).2.2⟩
      rw [t0, ev.1, ev.2] at e0
      rw [t0] at hm1
      rw [hv1] at c0
      have HC := hid (rsum_dig (w := w2) hm1 e0 (by rw [f2, f3] at hlen; omega))
      have i1 : (0 : Int) < (N : Int) := by rw [← HV.out.1]; omega
      obtain ⟨dt, hdt⟩ : ∃ dt, dt = dig top := ⟨_, rfl⟩
      rw [← hdt] at HC
      clear L2 b2 hs hx hL hup hlen f1 f2 f3 f4 q3 h0 e0 t0 hv1 hm1 ev hdt
      go_wp2_with fail
      refine HC.out.mono ?_
      rintro e w3 ⟨rfl, b3⟩
      replace TT := hid (TT.out.below b3)
      replace HR := hid (And.intro HR.out.1 (HR.out.2.below b3))
      replace HP := hid (And.intro HP.out.1 (HP.out.2.below b3))
      replace BB := hid (below_then BB.out b3)
      have HK1 := hid (q1.out w3 TT.out HR.out.2 HP.out.2 dt)
      obtain ⟨ac2, hac2⟩ : ∃ ac2, ac2 = acceptB dt key row there p := ⟨_, rfl⟩
      rw [← hac2] at HK1
      have HA2 := hid hac2
      have t2 : (ac2 != ac2) = false := by cases ac2 <;> rfl
      clear HC b3 c0 i1 hac2
      go_wp2_with fail
      refine HK1.out.mono ?_
      rintro e w4 ⟨rfl, b4⟩
      replace TT := hid (TT.out.below b4)
      replace HR := hid (And.intro HR.out.1 (HR.out.2.below b4))
      replace HP := hid (And.intro HP.out.1 (HP.out.2.below b4))
      replace BB := hid (below_then BB.out b4)
      have HK2 := hid (q2.out w4 HR.out.2 HP.out.2 dt)
      rw [← HA2.out] at HK2
      clear HK1 b4
      go_wp2_with fail
      refine HK2.out.mono ?_
      rintro e w5 ⟨rfl, b5⟩
      replace TT := hid (TT.out.below b5)
      replace HR := hid (And.intro HR.out.1 (HR.out.2.below b5))
      replace HP := hid (And.intro HP.out.1 (HP.out.2.below b5))
      replace BB := hid (below_then BB.out b5)
      have HV1 := hid (LAST.out w5 TT.out HP.out.2)
      clear HK2 b5
      go_wp2_with fail
      refine HV1.out.mono ?_
      rintro e w6 ⟨rfl, b6⟩
      replace TT := hid (TT.out.below b6)
      replace HR := hid (And.intro HR.out.1 (HR.out.2.below b6))
      replace HP := hid (And.intro HP.out.1 (HP.out.2.below b6))
      replace BB := hid (below_then BB.out b6)
      have HZ1 := hid (q1.out w6 TT.out HR.out.2 HP.out.2 digest)
      rw [← HA.out] at HZ1
      clear HV1 b6
      go_wp2_with fail
      refine HZ1.out.mono ?_
      rintro e w8 ⟨rfl, b8⟩
      replace HR := hid (And.intro HR.out.1 (HR.out.2.below b8))
      replace HP := hid (And.intro HP.out.1 (HP.out.2.below b8))
      replace BB := hid (below_then BB.out b8)
      have HZ2 := hid (q2.out w8 HR.out.2 HP.out.2 digest)
      rw [← HA.out] at HZ2
      clear HZ1 b8
      go_wp2_with fail
      refine HZ2.out.mono ?_
      rintro e w9 ⟨rfl, b9⟩
      have BF := below_then BB.out b9
      go_wp2
      go_ret
      exact ⟨by first | rfl | simp, BF⟩
end Go.Proofs.YtcfjciencggflaaDoor
