/- The walk of the laws' example: both. -/
import Derived.Test.YtponofojildbmaaDoorWalE
import Derived.Lib.SlBytesConst
set_option linter.unusedVariables false
set_option linter.unusedSimpArgs false
namespace Go.Proofs.YtponofojildbmaaDoor
open Go.RowKit PrintLast

theorem Listed.place {w : World} {B c : Nat} {A : Option Addr} {ps : List Part} (h : Listed w B A c ps) (h0 : 0 < ps.length) : ∃ g, A = some ⟨g, 0, none⟩ := by
  rcases h.1.2 with ⟨_, h1⟩ | ⟨g, cap, cur, e, _⟩
  · omega
  · exact ⟨g, (Value.slice.inj e).1⟩
theorem Row.form {w : World} {B c : Nat} {A : Option Addr} {l : List UInt8} (h : Row w B A c l) : A = none ∨ ∃ g, A = some ⟨g, 0, none⟩ := by
  rcases h.2 with ⟨e, _⟩ | ⟨g, cap, cur, e, _⟩
  · exact .inl (Value.slice.inj e).1
  · exact .inr ⟨g, (Value.slice.inj e).1⟩
theorem frame_gave {w : World} (hT : Table w) {A : Option Addr} {c n : Nat} {p : List UInt8} (hn : p.length = n) (hp : BSA w A c p) (hb : p.length ≤ 100000000) : Calls Tryd.prog 11 #[.slice A n c] w (Gave w (frameB p)) := by subst hn; exact frame_any hT hp hb
theorem scan_gave {w : World} (hT : Table w) {A : Option Addr} {c n : Nat} {p : List UInt8} (hn : p.length = n) {B : Nat} (hp : Row w B A c p) (hb : p.length ≤ 10000000) : Calls Tryd.prog 12 #[.slice A n c] w (Scanned w p) := by subst hn; exact scan_any hT hp.bsa hp.form hb
theorem rscan_gave {w : World} {A : Option Addr} {c n : Nat} {p : List UInt8} (hn : p.length = n) {B : Nat} (hp : Row w B A c p) (hb : p.length ≤ 10000000) : Calls Tryd.prog 14 #[.slice A n c] w (Scanned w p) := by subst hn; exact rscan_any hp.bsa hp.form hb

theorem const_bsa (w : World) (l : List UInt8) (hl : l.length ≤ 1000) {fr : Nat × Nat} : BSA (w.alloc (.cells (bytesV l).toArray 5 fr)) (some ⟨w.heap.size, 0, none⟩) l.length l := by
  refine ⟨Nat.le_refl _, by unfold maxLen; omega, (fun e => by cases e), fun ad e j hj => ?_⟩
  cases e
  rw [add_plain]
  exact cell_at (heap_alloc_new w _) (by rw [List.getElem?_toArray]; exact bytesV_get l j hj)
set_option maxRecDepth 100000 in
set_option maxHeartbeats 3200000 in
theorem both_any {w : World} (hT : Table w) : Calls Tryd.prog 10 #[] w fun e w' => e = .returned (.bool true) ∧ Below w.heap.size w w' := by
  obtain ⟨X, hX⟩ : ∃ X, Hid (X = frameB [97]) := ⟨_, hid rfl⟩
  obtain ⟨Y, hY⟩ : ∃ X, Hid (X = frameB [98]) := ⟨_, hid rfl⟩
  obtain ⟨P1, h1⟩ : ∃ P, Hid (P = X ++ Y) := ⟨_, hid rfl⟩
  obtain ⟨P2, h2⟩ : ∃ P, Hid (P = P1 ++ [97, 0]) := ⟨_, hid rfl⟩
  have l2 : Hid (P2.length = 20) := hid (by rw [h2.out, h1.out, hX.out, hY.out]; simp [frameB_length])
  have l1 : Hid (P1.length = 18) := hid (by rw [h1.out, hX.out, hY.out]; simp [frameB_length])
  have SC : Hid (scanB P2 = ([[97], [98]], 18)) := hid (by
    have e : P2 = allB [[97], [98]] ++ [97, 0] := by rw [h2.out, h1.out, hX.out, hY.out]; simp [allB]
    rw [e, scan_frames _ _ (by simp), scanB_none (nextB_short (by decide))]
    simp [allB, frameB_length])
  have q0 := const_bsa w [97] (by simp) (fr := (1, 2))
  have al := below_alloc (Below.refl _ w) (.cells (bytesV [97]).toArray 5 (1, 2))
  have H := hid (frame_gave (hT.below al) (n := 1) rfl q0 (by simp))
  clear q0
  go_enter Tryd.func10, Tryd.ntmps10
  have kc := fun (w : World) (C : Array Value) (n c : Nat) => Lib.run_convert_bytes_const (P := Tryd.prog) w 22 5 C n c Tryd.underlying22 Tryd.underlying5
  go_wp2_with fail
  refine H.out.mono ?_
  rintro e w1 ⟨A1, c1, rfl, r1, b1⟩
  have B1 := below_then al b1
  have q0 := const_bsa w1 [98] (by simp) (fr := (1, 2))
  have al1 := below_alloc (Below.refl _ w1) (.cells (bytesV [98]).toArray 5 (1, 2))
  have H := hid (frame_gave (hT.below (below_then B1 al1)) (n := 1) rfl q0 (by simp))
  rw [← hX.out] at r1 ⊢
  have r1' := r1.below al1
  clear q0 al b1 r1
  go_wp2_with fail
  refine H.out.mono ?_
  rintro e w2 ⟨A2, c2, rfl, r2, b2⟩
  have B2 := below_then (below_then B1 al1) b2
  rw [← hY.out] at r2 ⊢
  have r1 := r1'.below b2
  have H := hid (join_gave rfl rfl h1.out.symm r1.bsa r2.bsa (by rw [l1.out]; omega))
  clear r1' r1 r2 al1 b2 B1
  go_wp2_with fail
  refine H.out.mono ?_
  rintro e w3 ⟨A3, c3, rfl, r3, b3⟩
  have B3 := below_then B2 b3
  have q0 := const_bsa w3 [97, 0] (by simp) (fr := (2, 3))
  have al1 := below_alloc (Below.refl _ w3) (.cells (bytesV [97, 0]).toArray 5 (2, 3))
  have H := hid (join_gave rfl (n2 := 2) rfl h2.out.symm (r3.below al1).bsa q0 (by rw [l2.out]; omega))
  clear q0 r3 b3 B2
  go_wp2_with fail
  refine H.out.mono ?_
  rintro e w4 ⟨A4, c4, rfl, r4, b4⟩
  have B4 := below_then (below_then B3 al1) b4
  have H := hid (scan_gave (hT.below B4) rfl r4 (by rw [l2.out]; omega))
  clear al1 b4 B3
  go_wp2_with fail
  refine H.out.mono ?_
  rintro e w5 ⟨R, c5, ps, rfl, hL, hps, b5⟩
  have B5 := below_then B4 b5
  rw [SC.out] at hps ⊢
  rw [l2.out]
  have hl : ps.length = 2 := by have := congrArg List.length hps; simpa using this
  obtain ⟨x, y, rfl⟩ : ∃ x y, ps = [x, y] := by
    match ps, hl with
    | [x, y], _ => exact ⟨x, y, rfl⟩
  obtain ⟨g, rfl⟩ := hL.place (by simp)
  simp only [List.map_cons, List.map_nil, List.cons.injEq, and_true] at hps
  obtain ⟨⟨Ax, cx, x⟩, rfl⟩ : ∃ z, x = z := ⟨_, rfl⟩
  obtain ⟨⟨Ay, cy, y⟩, rfl⟩ : ∃ z, y = z := ⟨_, rfl⟩
  obtain ⟨rfl, rfl⟩ : x = [97] ∧ y = [98] := hps
  have k0 := hL.parts.2 _ rfl 0 (by simp)
  have k1 := hL.parts.2 _ rfl 1 (by simp)
  rw [add_plain] at k0 k1
  have c0 : w5.cell? ⟨g, 0, none⟩ = some (.slice Ax 1 cx) := k0.1
  have c1' : w5.cell? ⟨g, 1, none⟩ = some (.slice Ay 1 cy) := k1.1
  have v0 : (convert 22 9 (.slice Ax 1 cx)).run Tryd.prog w5 = .ok (.string ⟨#[97]⟩) w5 := conv_bsa (show BSA w5 Ax cx [97] from k0.2) (by decide)
  have v1 : (convert 22 9 (.slice Ay 1 cy)).run Tryd.prog w5 = .ok (.string ⟨#[98]⟩) w5 := conv_bsa (show BSA w5 Ay cy [98] from k1.2) (by decide)
  have hc := hL.cap
  have hc2 : 2 ≤ c5 := hc.1
  have e1 : ((⟨#[97]⟩ : ByteArray).toList == (⟨#[97]⟩ : ByteArray).toList) = true := by simp
  have e2 : ((⟨#[98]⟩ : ByteArray).toList == (⟨#[98]⟩ : ByteArray).toList) = true := by simp
  clear k0 k1 hL hl b5 B4 hc
  go_wp2
  go_ret
  exact ⟨rfl, B5⟩
end Go.Proofs.YtponofojildbmaaDoor
