/- ProofReads: any bytes. -/
import Derived.Test.YtmbgfjcmdolggaaDoorBare
set_option linter.unusedVariables false
set_option linter.unusedSimpArgs false
namespace Go.Proofs.YtmbgfjcmdolggaaDoor
open Go.RowKit PrintLast

theorem fits_none : Fits ⟨[], 0, ⟨#[]⟩, []⟩ := ⟨by simp, by simp, by decide, by decide, by simp, fun _ => rfl, fun _ => rfl⟩
theorem resB_fits (q : List UInt8) : Fits (resB q).2 := by
  unfold resB
  split
  · exact fits_none
  · rename_i p h
    exact decB_fits h

set_option maxRecDepth 100000 in
set_option maxHeartbeats 6400000 in
theorem reads_any {w : World} {A : Option Addr} {c n : Nat} {q : List UInt8} (hn : q.length = n) (hq : BSA w A c q) (hb : n ≤ 1000000) :
    Calls Tryd.prog 21 #[.slice A n c] w fun e w' => e = .returned (.bool true) ∧ Below w.heap.size w w' := by
  have D := hid (dec_any hn hq hb)
  have D2 : Hid (∀ w', Below w.heap.size w w' → Calls Tryd.prog 16 #[.slice A n c] w' (Decoded w' q)) := hid (fun w' h => rdec_any hn (hq.below h) hb)
  obtain ⟨S, hS⟩ : ∃ S, S = w.heap.size := ⟨_, rfl⟩
  have HS := hid hS
  have FI := (resB_fits q).2.1
  clear hq hn hS
  go_enter Tryd.func21, Tryd.ntmps21
  go_wp2_with fail
  refine D.out.mono ?_
  rintro e w1 ⟨A1, c1, B1, d1, rfl, t1, r1, b1⟩
  obtain ⟨R, hR⟩ : ∃ R, R = resB q := ⟨_, rfl⟩
  rw [← hR] at t1 r1 FI ⊢
  have HR := hid hR
  obtain ⟨en, p⟩ := R
  clear hR
  obtain ⟨ns, hns⟩ : ∃ ns, ns = p.side.length := ⟨_, rfl⟩
  obtain ⟨nr, hnr⟩ : ∃ nr, nr = p.row.length := ⟨_, rfl⟩
  have p1 : PrfAt w1 A1 ns c1 B1 nr d1 p := ⟨hns.symm, hnr.symm, by show ns ≤ 1000000000; have : p.side.length ≤ 256 := FI; omega, t1.at_, r1.bsa⟩
  unfold prfV
  rw [show (en, p).2.side.length = ns from hns.symm, show (en, p).2.row.length = nr from hnr.symm]
  have HNS := hid (And.intro hns hnr)
  obtain ⟨P1, hP1⟩ : ∃ P1, P1 = w1.heap.size := ⟨_, rfl⟩
  have g1 := heap_alloc_new w1 (.cells #[.slice A1 ns c1, .int .u8 (p.kind.toNat : Int), .string p.key, .slice B1 nr d1] 30)
  have al1 := below_alloc (Below.refl _ w1) (.cells #[.slice A1 ns c1, .int .u8 (p.kind.toNat : Int), .string p.key, .slice B1 nr d1] 30)
  have b1' := below_then b1 al1
  have p1' := p1.below al1
  have D2' := hid (D2.out _ b1')
  rw [← hP1] at g1
  have HP1 := hid hP1
  clear D D2 t1 r1 b1 al1 p1 hns hnr hP1 FI
  go_wp2_with fail
  refine D2'.out.mono ?_
  rintro e w2 ⟨A2, c2, B2, d2, rfl, t2, r2, b2⟩
  rw [← HR.out] at t2 r2 ⊢
  unfold prfV
  rw [show (en, p).2.side.length = ns from HNS.out.1.symm, show (en, p).2.row.length = nr from HNS.out.2.symm]
  have p2 : PrfAt w2 A2 ns c2 B2 nr d2 p := ⟨HNS.out.1.symm, HNS.out.2.symm, p1'.2.2.1, t2.at_, r2.bsa⟩
  have g1' := below_heap b2 g1
  have p1'' := p1'.below b2
  have b2' := below_then b1' b2
  obtain ⟨P2, hP2⟩ : ∃ P2, P2 = w2.heap.size := ⟨_, rfl⟩
  have g2 := heap_alloc_new w2 (.cells #[.slice A2 ns c2, .int .u8 (p.kind.toNat : Int), .string p.key, .slice B2 nr d2] 36)
  have al2 := below_alloc (Below.refl _ w2) (.cells #[.slice A2 ns c2, .int .u8 (p.kind.toNat : Int), .string p.key, .slice B2 nr d2] 36)
  have b3 := below_then b2' al2
  have g1'' := below_heap al2 g1'
  have q1 := p1''.below al2
  have q2 := p2.below al2
  rw [← hP2] at g2
  have HP2 := hid hP2
  have te : ((en : Int) == (en : Int)) = true := by simp
  clear D2' t2 r2 b2 b2' al2 p1' p1'' p2 b1' g1 g1' HR hP2
  rw [← HP1.out]
  go_upto_region 3 with fail
  rw [← HP2.out]
  show Code.wp _ _ _ _ (w2.alloc (.cells #[.slice A2 ns c2, .int .u8 (p.kind.toNat : Int), .string p.key, .slice B2 nr d2] 36))
  generalize w2.alloc (.cells #[.slice A2 ns c2, .int .u8 (p.kind.toNat : Int), .string p.key, .slice B2 nr d2] 36) = w3 at *
  obtain ⟨v0, v1, v2, v3, -, -, -, -⟩ := four g1''
  obtain ⟨u0, u1, u2, u3, -, -, -, -⟩ := four g2
  have L0 := like_any q1 q2
  rw [sameB_self] at L0
  have HL := hid L0
  clear q1 q2 L0 g1'' g2
  go_wp2_with fail
  refine HL.out.mono ?_
  rintro e w4 ⟨rfl, b4⟩
  have B4 := below_then b3 b4
  clear HL
  go_wp2
  go_ret
  exact ⟨rfl, B4⟩

set_option maxRecDepth 100000 in
set_option maxHeartbeats 3200000 in
theorem reads_walk {w : World} (hT : Table w) {A : Option Addr} {c : Nat} {p : List UInt8} (hp : BSA w A c p) :
    Calls Tryd.prog 4 #[.slice A p.length c] w fun e w' => e = .returned (.bool true) ∧ Below w.heap.size w w' := by
  have H := hid (bare_any hT)
  by_cases h : 200 < p.length
  · have t : decide ((200 : Int) < (p.length : Int)) = true := by simp; omega
    clear hp
    go_enter Tryd.func4, Tryd.ntmps4
    go_wp2_with fail
    refine H.out.mono ?_
    rintro e w1 ⟨rfl, b1⟩
    go_wp2
    go_ret
    exact ⟨rfl, b1⟩
  · have t : decide ((200 : Int) < (p.length : Int)) = false := by simp; omega
    obtain ⟨n, hn⟩ : ∃ n, n = p.length := ⟨_, rfl⟩
    rw [← hn] at h t ⊢
    have HN := hid hn
    have HP := hid hp
    clear hp hn
    go_enter Tryd.func4, Tryd.ntmps4
    go_wp2_with fail
    refine H.out.mono ?_
    rintro e w1 ⟨rfl, b1⟩
    have R1 := hid (reads_any HN.out.symm (HP.out.below b1) (by omega))
    clear H
    go_wp2_with fail
    refine R1.out.mono ?_
    rintro e w2 ⟨rfl, b2⟩
    have B2 := below_then b1 b2
    have al := below_alloc (Below.refl _ w2) (.cells (bytesV [0, 0]).toArray 5)
    have q2 := lits_bsa w2 [0, 0] (by simp)
    have J := hid (join_gave (n1 := 2) (L := [0, 0] ++ p) rfl HN.out.symm rfl q2 (HP.out.below (below_then B2 al)) (by simp; have := HN.out; omega))
    have B2' := below_then B2 al
    clear R1 b1 b2 al q2 B2
    go_wp2_with fail
    refine J.out.mono ?_
    rintro e w3 ⟨A3, c3, rfl, r3, b3⟩
    have B3 := below_then B2' b3
    have R3 := hid (reads_any (n := ([0, 0] ++ p).length) rfl r3.bsa (by simp; have := HN.out; omega))
    clear J r3 b3 B2'
    go_wp2_with fail
    refine R3.out.mono ?_
    rintro e w4 ⟨rfl, b4⟩
    have B4 := below_then B3 b4
    have al := below_alloc (Below.refl _ w4) (.cells (bytesV [0, 1]).toArray 5)
    have q4 := lits_bsa w4 [0, 1] (by simp)
    have J := hid (join_gave (n1 := 2) (L := [0, 1] ++ p) rfl HN.out.symm rfl q4 (HP.out.below (below_then B4 al)) (by simp; have := HN.out; omega))
    have B4' := below_then B4 al
    clear R3 b4 al q4 B4 B3
    go_wp2_with fail
    refine J.out.mono ?_
    rintro e w5 ⟨A5, c5, rfl, r5, b5⟩
    have B5 := below_then B4' b5
    have R5 := hid (reads_any (n := ([0, 1] ++ p).length) rfl r5.bsa (by simp; have := HN.out; omega))
    clear J r5 b5 B4'
    go_wp2_with fail
    refine R5.out.mono ?_
    rintro e w6 ⟨rfl, b6⟩
    have B6 := below_then B5 b6
    clear R5
    go_wp2
    go_ret
    exact ⟨rfl, B6⟩
end Go.Proofs.YtmbgfjcmdolggaaDoor
