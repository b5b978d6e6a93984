/- What awake runs through: an engine: opened, asked for its digest, quiet. -/
import Derived.Test.YtnidgljkbmceaaaGreatDoorG20
set_option linter.unusedVariables false
set_option linter.unusedSimpArgs false
namespace Go.Proofs.YtnidgljkbmceaaaGreatDoor
open Go.RowKit PrintLast
def engC (L P : Nat) (h : Value) (n : Int) : Array Value := #[.pointer (some ⟨L, 0, none⟩), .pointer (some ⟨P, 0, none⟩), .int .i64 0, .int .i64 0, .bool false, .int .i64 0, .bool false, .slice none 0 0, .slice none 0 0, .slice none 0 0, .bool false, .int .i64 0, .int .i64 0, .bool false, .int .i64 0, .bool false, .slice none 0 0, .slice none 0 0, .slice none 0 0, .bool false, .int .i64 0, .int .i64 0, .bool false, .int .i64 0, .bool false, .slice none 0 0, .slice none 0 0, .slice none 0 0, .bool false, .int .i64 0, .int .i64 0, .bool false, .int .i64 0, .bool false, .slice none 0 0, .slice none 0 0, .slice none 0 0, .bool false, .int .i64 0, .int .i64 0, .bool false, .int .i64 0, .bool false, .slice none 0 0, .slice none 0 0, .slice none 0 0, .bool false, .int .i64 0, .int .i64 0, .bool false, .int .i64 0, .bool false, .slice none 0 0, .slice none 0 0, .slice none 0 0, .bool false, .int .i64 0, .int .i64 0, .bool false, .int .i64 0, .bool false, .slice none 0 0, .slice none 0 0, .slice none 0 0, .bool false, .int .i64 0, .int .i64 0, .bool false, .int .i64 0, .bool false, .slice none 0 0, .slice none 0 0, .slice none 0 0, .bool false, h, .int .i64 n]
structure EngAt (w : World) (E L P R : Nat) (h : Value) (n : Int) : Prop where
  eng : w.heap[E]? = some (.cells (engC L P h n) 64 (0, 0))
  led : w.cell? ⟨L, 4, none⟩ = some (.slice (some ⟨R, 0, none⟩) 1 1)
  sts : w.heap[R]? = some (.cells st0 89 (0, 0))
  phase : w.cell? ⟨P, 3, none⟩ = some (.int .u8 0)
theorem EngAt.below {w w' : World} {E L P R : Nat} {h : Value} {n : Int} (H : EngAt w E L P R h n) (hb : Below w.heap.size w w') : EngAt w' E L P R h n :=
  ⟨below_heap hb H.eng, below_cell hb H.led, below_heap hb H.sts, below_cell hb H.phase⟩
set_option maxRecDepth 100000 in
set_option maxHeartbeats 3200000 in
theorem engine_open {w : World} (hT : Table w) {T C c D : Nat} (h : TabAt w T C) (hD : w.cell? ⟨D, 0, none⟩ = some (.slice none 0 0)) : Calls Tryz.prog 5 #[.slice (some ⟨T, 0, none⟩) 1 c, .pointer (some ⟨D, 0, none⟩)] w fun e w' =>
    ∃ E L P R : Nat, e = .returned (.tuple #[.pointer (some ⟨E, 0, none⟩), .int .i64 0]) ∧ EngAt w' E L P R (.slice none 0 0) 0 ∧ w.heap.size ≤ E ∧ Below w.heap.size w w' := by
  have HL := hid (ledger_new (c := c) hT h)
  have HD := hid hD
  clear hT h hD
  go_enter Tryz.func5, Tryz.ntmps5
  go_wp2_with fail
  refine HL.out.mono ?_
  rintro e w1 ⟨L, R, rfl, l1, s1, b1⟩
  have HW := hid (wopen_nil (below_cell b1 HD.out))
  have BB := hid b1
  have LS := hid (And.intro l1 s1)
  clear HL b1 l1 s1
  go_wp2_with fail
  refine HW.out.mono ?_
  rintro e w2 ⟨G, rfl, b2⟩
  replace LS := hid (And.intro (below_cell b2 LS.out.1) (below_heap b2 LS.out.2))
  replace BB := hid (below_then BB.out b2)
  clear HW b2
  have HR := hid (replay_nil (w := w2) (v := .pointer (some ⟨L, 0, none⟩)))
  go_wp2_with fail
  refine HR.out.mono ?_
  rintro e w3 ⟨rfl, rfl⟩
  clear HR
  have HG := hid (group_new (w := w2) (L := L) (G := G))
  go_wp2_with fail
  refine HG.out.mono ?_
  rintro e w4 ⟨P, rfl, p4, b4⟩
  replace LS := hid (And.intro (below_cell b4 LS.out.1) (below_heap b4 LS.out.2))
  replace BB := hid (below_then BB.out b4)
  have PP := hid p4
  clear HG b4 p4
  obtain ⟨w5, hw5⟩ : ∃ w5, w5 = w4.alloc (.cells ((Tryz.zeroCells64.setIfInBounds 0 (.pointer (some ⟨L, 0, none⟩))).setIfInBounds 1 (.pointer (some ⟨P, 0, none⟩))) 64) := ⟨_, rfl⟩
  obtain ⟨E, hE⟩ : ∃ E, E = w4.heap.size := ⟨_, rfl⟩
  have b5 : Below w4.heap.size w4 w5 := by rw [hw5]; exact below_alloc (Below.refl _ _) _
  have c5 : w5.heap[E]? = some (.cells (engC L P (.slice none 0 0) 0) 64 (0, 0)) := by rw [hw5, hE]; exact heap_alloc_new _ _
  have FIN := hid (And.intro (show EngAt w5 E L P R (.slice none 0 0) 0 from ⟨c5, below_cell b5 LS.out.1, below_heap b5 LS.out.2, below_cell b5 PP.out⟩) (And.intro (show w.heap.size ≤ E by rw [hE]; exact BB.out.size) (below_then BB.out b5)))
  have HE := hid (And.intro hE hw5)
  clear hw5 hE b5 c5 LS BB PP
  go_wp2
  rw [← HE.out.1, ← HE.out.2]
  go_ret2
  exact ⟨E, L, P, R, rfl, FIN.out⟩
theorem engC_get {L P : Nat} {h : Value} {n : Int} {c : Nat} (hc : c < 8) : (engC L P h n)[2 + c * 9 + 2]? = some (.bool false) := by
  match c, hc with
  | 0, _ => rfl
  | 1, _ => rfl
  | 2, _ => rfl
  | 3, _ => rfl
  | 4, _ => rfl
  | 5, _ => rfl
  | 6, _ => rfl
  | 7, _ => rfl
set_option maxRecDepth 100000 in
theorem of_any {w : World} {E c : Nat} (hc : c < 8) : Calls Tryz.prog 19 #[.pointer (some ⟨E, 0, none⟩), .int .i64 (c : Int)] w fun e w' => e = .returned (.pointer (some ⟨E, 2 + c * 9, none⟩)) ∧ w = w' := by
  have t1 : decide ((c : Int) < 0) = false := by simp
  have t2 : decide ((c : Int) ≥ 8) = false := by simp; omega
  have t3 : (0 : Int) ≤ (c : Int) ∧ (c : Int) < 8 := by omega
  go_enter Tryz.func19, Tryz.ntmps19
  go_wp2
  go_ret
  exact ⟨rfl, rfl⟩
set_option maxRecDepth 100000 in
theorem pending_no {w : World} {E L P R c : Nat} {h : Value} {n : Int} (H : EngAt w E L P R h n) (hc : c < 8) : Calls Tryz.prog 26 #[.pointer (some ⟨E, 0, none⟩), .int .i64 (c : Int)] w fun e w' => e = .returned (.bool false) ∧ w = w' := by
  have HO := hid (of_any (w := w) (E := E) hc)
  have k := cell_at H.eng (engC_get (c := c) hc)
  clear H hc
  go_enter Tryz.func26, Tryz.ntmps26
  go_wp2_with fail
  refine HO.out.mono ?_
  rintro e w1 ⟨rfl, rfl⟩
  clear HO
  go_wp2
  go_ret
  exact ⟨rfl, rfl⟩
theorem gphase_any {w : World} {P : Nat} (h : w.cell? ⟨P, 3, none⟩ = some (.int .u8 0)) : Calls Tryz.prog 44 #[.pointer (some ⟨P, 0, none⟩)] w fun e w' => e = .returned (.int .u8 0) ∧ w = w' := by
  go_enter Tryz.func44, Tryz.ntmps44
  go_wp2
  go_ret
  exact ⟨rfl, rfl⟩
theorem comm_any {w : World} {E P : Nat} (h : w.cell? ⟨E, 1, none⟩ = some (.pointer (some ⟨P, 0, none⟩))) : Calls Tryz.prog 53 #[.pointer (some ⟨E, 0, none⟩)] w fun e w' => e = .returned (.pointer (some ⟨P, 0, none⟩)) ∧ w = w' := by
  go_enter Tryz.func53, Tryz.ntmps53
  go_wp2
  go_ret
  exact ⟨rfl, rfl⟩
theorem phase_any {w : World} {E L P R : Nat} {h : Value} {n : Int} (H : EngAt w E L P R h n) : Calls Tryz.prog 27 #[.pointer (some ⟨E, 0, none⟩)] w fun e w' => e = .returned (.int .u8 0) ∧ w = w' := by
  have HC := hid (comm_any (cell_at H.eng (i := 1) rfl))
  have HP := hid (gphase_any H.phase)
  clear H
  go_enter Tryz.func27, Tryz.ntmps27
  go_wp2_with fail
  refine HC.out.mono ?_
  rintro e w1 ⟨rfl, rfl⟩
  clear HC
  go_wp2_with fail
  refine HP.out.mono ?_
  rintro e w1 ⟨rfl, rfl⟩
  clear HP
  go_wp2
  go_ret
  exact ⟨rfl, rfl⟩
set_option maxRecDepth 100000 in
theorem quiet_any {w : World} {E L P R : Nat} {h : Value} {n : Int} (H : EngAt w E L P R h n) : Calls Tryz.prog 13 #[.pointer (some ⟨E, 0, none⟩)] w fun e w' => e = .returned (.bool true) ∧ w = w' := by
  have HQ : Hid (∀ c : Nat, c < 8 → Calls Tryz.prog 26 #[.pointer (some ⟨E, 0, none⟩), .int .i64 (c : Int)] w fun e w' => e = .returned (.bool false) ∧ w = w') := hid (fun c hc => pending_no H hc)
  have HP := hid (phase_any H)
  clear H
  go_enter Tryz.func13, Tryz.ntmps13
  go_wp2
  go_loopw [4] (fun v wr => ∃ k : Nat, k ≤ 8 ∧ v = .int .i64 (k : Int) ∧ Hid (wr = w)) (fun v _ => 8 - (intOf v).toNat)
  case atStart => exact ⟨0, by omega, rfl, hid rfl⟩
  case round =>
    obtain ⟨k, hk, rfl, hw⟩ := hrel
    obtain rfl := hw.out
    clear hw
    by_cases hlt : k < 8
    · have t1 : decide ((k : Int) < 8) = true := by simp; omega
      have wk : wrap64 ((k : Int) + 1) = (k : Int) + 1 := by unfold wrap64; omega
      have HC := hid (HQ.out k hlt)
      have KL := hid hlt
      clear hlt
      go_wp2_with fail
      refine HC.out.mono ?_
      rintro e w1 ⟨rfl, rfl⟩
      clear HC
      go_wp2
      go_roundw
      case rel => exact ⟨k + 1, KL.out, by go_num, hid True.intro⟩
      case measure => have := KL.out; simp [intOf]; omega
    · obtain rfl : k = 8 := by omega
      rw [show ((8 : Nat) : Int) = 8 from rfl]
      go_wp2_with fail
      refine HP.out.mono ?_
      rintro e w1 ⟨rfl, rfl⟩
      go_wp2
      go_ret
      exact ⟨rfl, rfl⟩
set_option maxRecDepth 100000 in
theorem digests_one {w : World} {L R : Nat} (l : w.cell? ⟨L, 4, none⟩ = some (.slice (some ⟨R, 0, none⟩) 1 1)) (s : w.heap[R]? = some (.cells st0 89 (0, 0))) : Calls Tryz.prog 81 #[.pointer (some ⟨L, 0, none⟩)] w fun e w' =>
    ∃ (g c : Nat), e = .returned (.slice (some ⟨g, 0, none⟩) 1 c) ∧ 1 ≤ c ∧ w.heap.size ≤ g ∧ w'.cell? ⟨g, 0, none⟩ = some (.string first0) ∧ Below w.heap.size w w' := by
  obtain ⟨d0, hd0⟩ : ∃ d, d = first0 := ⟨_, rfl⟩
  obtain ⟨d1, hd1⟩ : ∃ d, d = dig [0] := ⟨_, rfl⟩
  obtain ⟨d2, hd2⟩ : ∃ d, d = dig [] := ⟨_, rfl⟩
  have e0 : st0 = #[.string d0, .string d1, .string d2, .pointer none] := by rw [hd0, hd1, hd2]; rfl
  rw [e0] at s
  have HD := hid hd0
  rw [← HD.out]
  clear e0 hd0 hd1 hd2
  obtain ⟨v0, v1, v2, v3, -, -, -, -⟩ := four s
  clear s
  go_enter Tryz.func81, Tryz.ntmps81
  go_wp2
  refine wp_loop_rounds 2 ?_
  rw [rounds_succ]
  go_wp2
  rw [rounds_succ]
  go_wp2
  go_ret
  refine ⟨w.heap.size + 1 + 1, _, rfl, grownCap_ge w 1 0 9, by omega, ?_, by go_grown⟩
  have e : ∀ (W : World) a, W.drew.cell? a = W.cell? a := fun _ _ => rfl
  rw [e]; exact last_cell (by simp) (by rfl)
theorem ret_cell_one {P : Program} {fn : Func} {p : Tmp} {ty : TypeId} (h : fn.results = #[.cell p ty]) {tmps : Array Value} {w : World} {g : Nat} {cs : Array Value} {t : TypeId} {fr : Nat × Nat} {d : TypeDesc} (hp : tmps.getD p undef = .pointer (some ⟨g, 0, none⟩)) (hg : w.heap[g]? = some (.cells cs t fr))
    (hu : P.underlying ty = some d) (hd : (match d with | .struct _ | .array _ _ => true | _ => false) = true) (hi : (P.info? ty).map (·.size) = some cs.size) :
    (results fn tmps).run P w = .ok (.agg cs) w := results_cell_row h _ _ g t cs fr d hp hg hu hd hi
theorem infReply : (Tryz.prog.info? 38).map (·.size) = some 5 := by kernel_rfl
theorem infCall : (Tryz.prog.info? 42).map (·.size) = some 5 := by kernel_rfl
def askV : Value := .agg #[.int .u8 8, .int .i64 0, .slice none 0 0, .string ⟨#[]⟩, .int .i64 0]
def toldV (g c : Nat) : Value := .agg #[.int .i64 0, .bool false, .slice none 0 0, .slice (some ⟨g, 0, none⟩) 1 c, .slice none 0 0]
set_option maxRecDepth 100000 in
set_option maxHeartbeats 1600000 in
theorem past_one {w : World} {E L P R : Nat} {h : Value} {n : Int} (H : EngAt w E L P R h n) : Calls Tryz.prog 42 #[.pointer (some ⟨E, 0, none⟩), askV] w fun e w' =>
    ∃ (g c : Nat), e = .returned (toldV g c) ∧ w.heap.size ≤ g ∧ w'.cell? ⟨g, 0, none⟩ = some (.string first0) ∧ Below w.heap.size w w' := by
  unfold askV
  obtain ⟨w1, hw1⟩ : ∃ w1, w1 = (w.alloc (.cells #[.int .u8 8, .int .i64 0, .slice none 0 0, .string ⟨#[]⟩, .int .i64 0] 42)).alloc (.cells #[.int .i64 0, .bool false, .slice none 0 0, .slice none 0 0, .slice none 0 0] 38) := ⟨_, rfl⟩
  have b1 : Below w.heap.size w w1 := by rw [hw1]; go_grown
  have H1 := hid (H.below b1)
  have BB := hid b1
  obtain ⟨S, hS⟩ : ∃ S, S = w.heap.size := ⟨_, rfl⟩
  obtain ⟨S1, hS1⟩ : ∃ S1, S1 = S + 1 := ⟨_, rfl⟩
  have g0 : w1.heap[S]? = some (.cells #[.int .u8 8, .int .i64 0, .slice none 0 0, .string ⟨#[]⟩, .int .i64 0] 42 (0, 0)) := by
    rw [hw1, hS]; exact below_heap (below_alloc (Below.refl _ _) _) (heap_alloc_new _ _)
  have g1 : w1.heap[S1]? = some (.cells #[.int .i64 0, .bool false, .slice none 0 0, .slice none 0 0, .slice none 0 0] 38 (0, 0)) := by
    rw [hw1, hS1, hS]
    have := heap_alloc_new (w.alloc (.cells #[.int .u8 8, .int .i64 0, .slice none 0 0, .string ⟨#[]⟩, .int .i64 0] 42)) (.cells #[.int .i64 0, .bool false, .slice none 0 0, .slice none 0 0, .slice none 0 0] 38)
    rw [show (w.alloc (.cells #[.int .u8 8, .int .i64 0, .slice none 0 0, .string ⟨#[]⟩, .int .i64 0] 42)).heap.size = w.heap.size + 1 by simp] at this
    exact this
  have G0 := hid g0
  have G1 := hid g1
  have HW := hid hw1
  have HS := hid (show S1 = w.heap.size + 1 by rw [hS1, hS])
  have HS0 := hid hS
  have HDG := hid (digests_one H1.out.led H1.out.sts)
  have k0 := cell_at H1.out.eng (i := 0) rfl
  clear H b1 hw1 hS hS1 g0 g1
  go_enter Tryz.func42, Tryz.ntmps42
  go_upto_region 1 with fail
  rw [← HS.out, ← HS0.out, ← HW.out]
  go_wp2_with fail
  refine HDG.out.mono ?_
  rintro e w2 ⟨g, c, rfl, c1, gS, cg, b2⟩
  have gs := hid (show g ≠ S1 ∧ w.heap.size ≤ g by have := HS.out; have := lt_of_block G1.out; omega)
  clear gS
  have a0 := below_heap b2 G0.out
  have a1 := below_heap b2 G1.out
  have kk := cell_at a0 (i := 0) rfl
  have q0 := cell_at a1 (i := 0) rfl
  have q1 := cell_at a1 (i := 1) rfl
  have q2 := cell_at a1 (i := 2) rfl
  have q3 := cell_at a1 (i := 3) rfl
  have q4 := cell_at a1 (i := 4) rfl
  have f0 := free_at a1 0
  have f1 := free_at a1 1
  have f2 := free_at a1 2
  have f3 := free_at a1 3
  have f4 := free_at a1 4
  have B2 := hid (below_then BB.out b2)
  have CG := hid cg
  have C1 := hid c1
  clear HDG k0 G0 G1 b2 cg a0 H1
  go_wp2
  have G6 : ((((((w2.setCell ⟨S1, 3, none⟩ (.slice (some ⟨g, 0, none⟩) 1 c)).setCell ⟨S1, 0, none⟩ (.int .i64 0)).setCell ⟨S1, 1, none⟩ (.bool false)).setCell ⟨S1, 2, none⟩ (.slice none 0 0)).setCell ⟨S1, 3, none⟩ (.slice (some ⟨g, 0, none⟩) 1 c)).setCell ⟨S1, 4, none⟩ (.slice none 0 0)).heap[S1]? = some (.cells #[.int .i64 0, .bool false, .slice none 0 0, .slice (some ⟨g, 0, none⟩) 1 c, .slice none 0 0] 38 (0, 0)) := by
    rw [heap_set (heap_set (heap_set (heap_set (heap_set (heap_set a1)))))]; rfl
  have K6 : Keeps (fun k => k = S1) w2 ((((((w2.setCell ⟨S1, 3, none⟩ (.slice (some ⟨g, 0, none⟩) 1 c)).setCell ⟨S1, 0, none⟩ (.int .i64 0)).setCell ⟨S1, 1, none⟩ (.bool false)).setCell ⟨S1, 2, none⟩ (.slice none 0 0)).setCell ⟨S1, 3, none⟩ (.slice (some ⟨g, 0, none⟩) 1 c)).setCell ⟨S1, 4, none⟩ (.slice none 0 0)) :=
    ((((((Keeps.refl (fun k => k = S1) w2).setCell (p := ⟨S1, 3, none⟩) (fun _ => rfl) _).setCell (p := ⟨S1, 0, none⟩) (fun _ => rfl) _).setCell (p := ⟨S1, 1, none⟩) (fun _ => rfl) _).setCell (p := ⟨S1, 2, none⟩) (fun _ => rfl) _).setCell (p := ⟨S1, 3, none⟩) (fun _ => rfl) _).setCell (p := ⟨S1, 4, none⟩) (fun _ => rfl) _
  have B6 : Below w.heap.size w ((((((w2.setCell ⟨S1, 3, none⟩ (.slice (some ⟨g, 0, none⟩) 1 c)).setCell ⟨S1, 0, none⟩ (.int .i64 0)).setCell ⟨S1, 1, none⟩ (.bool false)).setCell ⟨S1, 2, none⟩ (.slice none 0 0)).setCell ⟨S1, 3, none⟩ (.slice (some ⟨g, 0, none⟩) 1 c)).setCell ⟨S1, 4, none⟩ (.slice none 0 0)) := by
    have sz := HS.out
    have hg : w.heap.size ≤ S1 := by omega
    exact (((((B2.out.setCell (p := ⟨S1, 3, none⟩) hg _).setCell (p := ⟨S1, 0, none⟩) hg _).setCell (p := ⟨S1, 1, none⟩) hg _).setCell (p := ⟨S1, 2, none⟩) hg _).setCell (p := ⟨S1, 3, none⟩) hg _).setCell (p := ⟨S1, 4, none⟩) hg _
  have C6 := K6.cell CG.out gs.out.1
  have G7 := hid G6
  have FIN := hid (And.intro gs.out.2 (And.intro C6 B6))
  clear G6 K6 B6 C6 a1 kk q0 q1 q2 q3 q4 f0 f1 f2 f3 f4 B2 CG c1
  generalize ((((((w2.setCell ⟨S1, 3, none⟩ (.slice (some ⟨g, 0, none⟩) 1 c)).setCell ⟨S1, 0, none⟩ (.int .i64 0)).setCell ⟨S1, 1, none⟩ (.bool false)).setCell ⟨S1, 2, none⟩ (.slice none 0 0)).setCell ⟨S1, 3, none⟩ (.slice (some ⟨g, 0, none⟩) 1 c)).setCell ⟨S1, 4, none⟩ (.slice none 0 0)) = w3 at *
  refine bodyPost_ret (ret_cell_one rfl rfl G7.out Tryz.underlying38 rfl infReply) rfl ?_
  exact ⟨g, c, rfl, FIN.out⟩
theorem copied_any {w : World} : Calls Tryz.prog 21 #[askV] w fun e w' => e = .returned askV ∧ Below w.heap.size w w' := by
  unfold askV
  have HC : Hid (∀ w : World, Calls Tryz.prog 43 #[.slice none 0 0] w fun e w' => e = .returned (.slice none 0 0) ∧ w = w') := hid (fun w => cloneV_nil)
  go_enter Tryz.func21, Tryz.ntmps21
  go_wp2_with fail
  refine (HC.out _).mono ?_
  rintro e w1 ⟨rfl, rfl⟩
  go_wp2
  go_returns
  exact ⟨rfl, by go_grown⟩
set_option maxRecDepth 100000 in
set_option maxHeartbeats 1600000 in
theorem answer_one {w : World} {E L P R : Nat} {h : Value} {n : Int} {y : Value} (H : EngAt w E L P R h n) : Calls Tryz.prog 20 #[.pointer (some ⟨E, 0, none⟩), y, askV] w fun e w' =>
    ∃ (g c : Nat), e = .returned (.tuple #[toldV g c, .bool true]) ∧ w.heap.size ≤ g ∧ w'.cell? ⟨g, 0, none⟩ = some (.string first0) ∧ Below w.heap.size w w' := by
  obtain ⟨S, hS⟩ : ∃ S, S = w.heap.size := ⟨_, rfl⟩
  obtain ⟨S1, hS1⟩ : ∃ S1, S1 = S + 1 := ⟨_, rfl⟩
  obtain ⟨w1, hw1⟩ : ∃ w1, w1 = (w.alloc (.cells #[.int .u8 8, .int .i64 0, .slice none 0 0, .string ⟨#[]⟩, .int .i64 0] 42)).alloc (.cells #[.int .i64 0, .bool false, .slice none 0 0, .slice none 0 0, .slice none 0 0] 38) := ⟨_, rfl⟩
  have b1 : Below w.heap.size w w1 := by rw [hw1]; go_grown
  have g1 : w1.heap[S1]? = some (.cells #[.int .i64 0, .bool false, .slice none 0 0, .slice none 0 0, .slice none 0 0] 38 (0, 0)) := by
    rw [hw1, hS1, hS]
    have := heap_alloc_new (w.alloc (.cells #[.int .u8 8, .int .i64 0, .slice none 0 0, .string ⟨#[]⟩, .int .i64 0] 42)) (.cells #[.int .i64 0, .bool false, .slice none 0 0, .slice none 0 0, .slice none 0 0] 38)
    rw [show (w.alloc (.cells #[.int .u8 8, .int .i64 0, .slice none 0 0, .string ⟨#[]⟩, .int .i64 0] 42)).heap.size = w.heap.size + 1 by simp] at this
    exact this
  have g0 : w1.heap[S]? = some (.cells #[.int .u8 8, .int .i64 0, .slice none 0 0, .string ⟨#[]⟩, .int .i64 0] 42 (0, 0)) := by
    rw [hw1, hS]; exact below_heap (below_alloc (Below.refl _ _) _) (heap_alloc_new _ _)
  have HP := hid (past_one (H.below b1))
  have G1 := hid g1
  have BB := hid b1
  have HW := hid hw1
  have HS := hid (show S1 = w.heap.size + 1 by rw [hS1, hS])
  have HS0 := hid hS
  have sz1 := hid (show w.heap.size ≤ w1.heap.size from b1.size)
  have k0 := cell_at g0 (i := 0) rfl
  have k1 := cell_at g0 (i := 1) rfl
  have k2 := cell_at g0 (i := 2) rfl
  have k3 := cell_at g0 (i := 3) rfl
  have k4 := cell_at g0 (i := 4) rfl
  clear H b1 hw1 hS hS1 g0 g1
  unfold askV at HP ⊢
  go_enter Tryz.func20, Tryz.ntmps20
  go_upto_region 1 with fail
  rw [← HS.out, ← HS0.out, ← HW.out]
  go_wp2_with fail
  refine HP.out.mono ?_
  rintro e w2 ⟨g, c, rfl, gS, cg, b2⟩
  have gs := hid (show g ≠ S1 ∧ w.heap.size ≤ g by have := HS.out; have := lt_of_block G1.out; have := sz1.out; omega)
  have a1 := below_heap b2 G1.out
  have f0 := free_at a1 0
  have f1 := free_at a1 1
  have f2 := free_at a1 2
  have f3 := free_at a1 3
  have f4 := free_at a1 4
  have B2 := hid (below_then BB.out b2)
  have CG := hid cg
  have A1 := hid a1
  have q0 := cell_at a1 (i := 0) rfl
  have q1 := cell_at a1 (i := 1) rfl
  have q2 := cell_at a1 (i := 2) rfl
  have q3 := cell_at a1 (i := 3) rfl
  have q4 := cell_at a1 (i := 4) rfl
  clear HP k0 k1 k2 k3 k4 G1 b2 cg gS a1
  unfold toldV
  go_wp2
  have G6 : (((((w2.setCell ⟨S1, 0, none⟩ (.int .i64 0)).setCell ⟨S1, 1, none⟩ (.bool false)).setCell ⟨S1, 2, none⟩ (.slice none 0 0)).setCell ⟨S1, 3, none⟩ (.slice (some ⟨g, 0, none⟩) 1 c)).setCell ⟨S1, 4, none⟩ (.slice none 0 0)).heap[S1]? = some (.cells #[.int .i64 0, .bool false, .slice none 0 0, .slice (some ⟨g, 0, none⟩) 1 c, .slice none 0 0] 38 (0, 0)) := by
    rw [heap_set (heap_set (heap_set (heap_set (heap_set A1.out))))]; rfl
  have K6 : Keeps (fun k => k = S1) w2 (((((w2.setCell ⟨S1, 0, none⟩ (.int .i64 0)).setCell ⟨S1, 1, none⟩ (.bool false)).setCell ⟨S1, 2, none⟩ (.slice none 0 0)).setCell ⟨S1, 3, none⟩ (.slice (some ⟨g, 0, none⟩) 1 c)).setCell ⟨S1, 4, none⟩ (.slice none 0 0)) :=
    (((((Keeps.refl (fun k => k = S1) w2).setCell (p := ⟨S1, 0, none⟩) (fun _ => rfl) _).setCell (p := ⟨S1, 1, none⟩) (fun _ => rfl) _).setCell (p := ⟨S1, 2, none⟩) (fun _ => rfl) _).setCell (p := ⟨S1, 3, none⟩) (fun _ => rfl) _).setCell (p := ⟨S1, 4, none⟩) (fun _ => rfl) _
  have B6 : Below w.heap.size w (((((w2.setCell ⟨S1, 0, none⟩ (.int .i64 0)).setCell ⟨S1, 1, none⟩ (.bool false)).setCell ⟨S1, 2, none⟩ (.slice none 0 0)).setCell ⟨S1, 3, none⟩ (.slice (some ⟨g, 0, none⟩) 1 c)).setCell ⟨S1, 4, none⟩ (.slice none 0 0)) := by
    have sz := HS.out
    have hg : w.heap.size ≤ S1 := by omega
    exact ((((B2.out.setCell (p := ⟨S1, 0, none⟩) hg _).setCell (p := ⟨S1, 1, none⟩) hg _).setCell (p := ⟨S1, 2, none⟩) hg _).setCell (p := ⟨S1, 3, none⟩) hg _).setCell (p := ⟨S1, 4, none⟩) hg _
  have C6 := K6.cell CG.out gs.out.1
  have G7 := hid G6
  have FIN := hid (And.intro gs.out.2 (And.intro C6 B6))
  clear G6 K6 B6 C6 A1 q0 q1 q2 q3 q4 f0 f1 f2 f3 f4 B2 CG
  generalize (((((w2.setCell ⟨S1, 0, none⟩ (.int .i64 0)).setCell ⟨S1, 1, none⟩ (.bool false)).setCell ⟨S1, 2, none⟩ (.slice none 0 0)).setCell ⟨S1, 3, none⟩ (.slice (some ⟨g, 0, none⟩) 1 c)).setCell ⟨S1, 4, none⟩ (.slice none 0 0)) = w3 at *
  try simp only [Exit.inBlock, Exit.then]
  refine bodyPost_ret (ret_cell_tmp rfl rfl G7.out Tryz.underlying38 rfl infReply) rfl ?_
  exact ⟨g, c, rfl, FIN.out⟩
end Go.Proofs.YtnidgljkbmceaaaGreatDoor
