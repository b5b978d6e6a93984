/- The walks of what the laws of layer 10 share: a proof out of no tree, the document's example, reads. -/
import Derived.Test.YtmbgfjcmdolggaaDoorSame
set_option linter.unusedVariables false
set_option linter.unusedSimpArgs false
namespace Go.Proofs.YtmbgfjcmdolggaaDoor
open Go.RowKit PrintLast

theorem halves_nil {w : World} : Calls Tryd.prog 29 #[.pointer none] w fun e w' => e = .returned (.tuple #[.pointer none, .pointer none, .bool false]) ∧ w = w' := by
  go_enter Tryd.func29, Tryd.ntmps29
  go_wp2
  go_ret3
  exact ⟨rfl, rfl⟩
theorem single_nil {w : World} : Calls Tryd.prog 54 #[.pointer none] w fun e w' => e = .returned (.bool false) ∧ w = w' := by
  go_enter Tryd.func54, Tryd.ntmps54
  go_wp2
  go_ret
  exact ⟨rfl, rfl⟩
theorem leaf_nil {w : World} : Calls Tryd.prog 33 #[.pointer none] w fun e w' => e = .returned (.tuple #[.string ⟨#[]⟩, .slice none 0 0, .bool false]) ∧ w = w' := by
  have H := hid (single_nil (w := w))
  go_enter Tryd.func33, Tryd.ntmps33
  go_wp2_with fail
  refine H.out.mono ?_
  rintro e w1 ⟨rfl, rfl⟩
  go_wp2
  go_ret3
  exact ⟨rfl, rfl⟩

theorem halves_nil' {w : World} : Calls Tryd.prog 29 #[.pointer none] w fun e w' => e = .returned (.tuple #[.pointer none, .pointer none, .bool false]) ∧ w = w' := halves_nil
/-- A struct that is handed back by value out of its block. -/
theorem ret_cell_one {P : Program} {fn : Func} {p : Tmp} {ty : TypeId} (h : fn.results = #[.cell p ty]) {tmps : Array Value} {w : World} {g : Nat} {cs : Array Value} {t : TypeId} {fr : Nat × Nat} {d : TypeDesc} (hp : tmps.getD p undef = .pointer (some ⟨g, 0, none⟩)) (hg : w.heap[g]? = some (.cells cs t fr))
    (hu : P.underlying ty = some d) (hd : (match d with | .struct _ | .array _ _ => true | _ => false) = true) (hi : (P.info? ty).map (·.size) = some cs.size) :
    (results fn tmps).run P w = .ok (.agg cs) w := results_cell_row h _ _ g t cs fr d hp hg hu hd hi

set_option maxRecDepth 100000 in
set_option maxHeartbeats 3200000 in
theorem build_nil {w : World} (hT : Table w) {key : ByteArray} (hk : key.size ≤ 1000000) :
    Calls Tryd.prog 25 #[.pointer none, .string key] w fun e w' => e = .returned (.agg #[.slice none 0 0, .int .u8 0, .string ⟨#[]⟩, .slice none 0 0]) ∧ Below w.heap.size w w' := by
  obtain ⟨g0, g1, al⟩ := alloc2 w (.cells #[.slice none 0 0, .int .u8 0, .string ⟨#[]⟩, .slice none 0 0] 30) (.cells #[.slice none 0 0, .int .u8 0, .string ⟨#[]⟩, .slice none 0 0] 30)
  obtain ⟨S, hS⟩ : ∃ S, S = w.heap.size := ⟨_, rfl⟩
  have hT' := hid (hT.below al)
  rw [← hS] at g0 g1 al
  have HS := hid hS
  have ks : key.size ≤ maxLen := by unfold maxLen; omega
  clear hT hS
  go_enter Tryd.func25, Tryd.ntmps25
  go_upto_region 2 with fail
  rw [← HS.out]
  generalize hW : (w.alloc (.cells #[.slice none 0 0, .int .u8 0, .string ⟨#[]⟩, .slice none 0 0] 30)).alloc (.cells #[.slice none 0 0, .int .u8 0, .string ⟨#[]⟩, .slice none 0 0] 30) = W at *
  obtain ⟨S1, hS1⟩ : ∃ S1, S1 = S + 1 := ⟨_, rfl⟩
  rw [← hS1] at g1 ⊢
  have o01 : S < S1 := by omega
  clear hS1 hW
  go_wp2_with (refine wpList_conv rfl (.tmp 13) rfl key rfl ks ?_)
  intro g3 c3 w3 _ q3 b3
  have sW : S ≤ W.heap.size := by have := lt_of_block g0; omega
  have h0 := below_heap b3 g0
  have h1 := below_heap b3 g1
  have B3 := al.trans (b3.mono sW)
  have H := hid (sum_dig (bsz key) (hT'.out.below b3) q3 (by rw [bsz]; omega))
  clear g0 g1 al b3 q3 sW
  go_wp2_with fail
  refine H.out.mono ?_
  rintro e w4 ⟨rfl, b4⟩
  have k0 := below_heap b4 h0
  have k1 := below_heap b4 h1
  have B4 := B3.trans (b4.mono (by have := lt_of_block h0; omega))
  have HH := hid (halves_nil (w := w4))
  have HL := hid (leaf_nil (w := w4))
  obtain ⟨v0, v1, v2, v3, v0', v1', v2', v3'⟩ := four k0
  obtain ⟨u0, u1, u2, u3, -, -, -, -⟩ := four k1
  have G := hid (set4_heap (a := .slice none 0 0) (b := .int .u8 0) (c := .string ⟨#[]⟩) (d := .slice none 0 0) k0)
  have FB := set4_below B4 (Nat.le_refl S) (.slice none 0 0) (.int .u8 0) (.string ⟨#[]⟩) (.slice none 0 0)
  rw [HS.out] at FB
  have HF := hid FB
  clear h0 h1 B3 b4 H k0 k1 B4 FB
  go_wp2
  go_loopw [0] (fun n wr => n = .pointer none ∧ w4 = wr) (fun _ _ => 0)
  case atStart => exact ⟨rfl, rfl⟩
  case round =>
    obtain ⟨rfl, rfl⟩ := hrel
    go_wp2_with fail
    refine HH.out.mono ?_
    rintro e w5 ⟨rfl, rfl⟩
    go_wp2_with fail
    refine HL.out.mono ?_
    rintro e w5 ⟨rfl, rfl⟩
    go_wp2
    refine bodyPost_ret (ret_cell_one rfl rfl G.out Tryd.underlying30 rfl infPP) rfl ?_
    exact ⟨rfl, by rw [HS.out]; exact HF.out⟩

/-- The document's example. -/
def noPrf : Prf := ⟨[], 0, ⟨#[]⟩, []⟩
theorem enc_none : encB noPrf = [0, 0, 0] := by decide
theorem res_none : resB [0, 0, 0] = (0, noPrf) := by rfl

set_option maxRecDepth 100000 in
set_option maxHeartbeats 6400000 in
theorem bare_any {w : World} (hT : Table w) : Calls Tryd.prog 11 #[] w fun e w' => e = .returned (.bool true) ∧ Below w.heap.size w w' := by
  have H := hid (build_nil (key := ⟨#[120]⟩) hT (by decide))
  obtain ⟨S, hS⟩ : ∃ S, S = w.heap.size := ⟨_, rfl⟩
  have HS := hid hS
  have HT := hid hT
  clear hT
  go_enter Tryd.func11, Tryd.ntmps11
  go_wp2_with fail
  refine H.out.mono ?_
  rintro e w1 ⟨rfl, b1⟩
  rw [← hS] at b1
  have s1 : S ≤ w1.heap.size := by rw [hS]; exact b1.size
  obtain ⟨P1, hP1⟩ : ∃ P1, P1 = w1.heap.size := ⟨_, rfl⟩
  have g1 := heap_alloc_new w1 (.cells #[.slice none 0 0, .int .u8 0, .string ⟨#[]⟩, .slice none 0 0] 30)
  have a1 := b1.alloc s1 (.cells #[.slice none 0 0, .int .u8 0, .string ⟨#[]⟩, .slice none 0 0] 30)
  rw [← hP1] at g1
  have HP1 := hid hP1
  clear H b1 hS hP1
  go_upto_region 2 with fail
  rw [← HP1.out]
  generalize w1.alloc (.cells #[.slice none 0 0, .int .u8 0, .string ⟨#[]⟩, .slice none 0 0] 30) = w2 at *
  have s2 : P1 < w2.heap.size := lt_of_block g1
  have s1' : S ≤ P1 := by rw [HP1.out]; exact s1
  have q0 := lits_bsa w2 [0, 0, 0] (by simp)
  have al2 := below_alloc (Below.refl _ w2) (.cells (bytesV [0, 0, 0]).toArray 5)
  have D := hid (dec_any (n := 3) rfl q0 (by omega))
  have g2 := below_heap al2 g1
  have a2 := a1.alloc (by omega) (.cells (bytesV [0, 0, 0]).toArray 5)
  clear q0 g1 a1 al2 s1
  go_wp2_with fail
  refine D.out.mono ?_
  rintro e w3 ⟨A, c, B, d, rfl, t3, r3, b3⟩
  rw [res_none] at t3 r3 ⊢
  have p3 : PrfAt w3 A 0 c B 0 d noPrf := ⟨rfl, rfl, by omega, t3.at_, r3.bsa⟩
  have g3 := below_heap b3 g2
  have sa : S ≤ (w2.alloc (.cells (bytesV [0, 0, 0]).toArray 5)).heap.size := by simp; omega
  have a3 := a2.trans (b3.mono sa)
  obtain ⟨P2, hP2⟩ : ∃ P2, P2 = w3.heap.size := ⟨_, rfl⟩
  have h2 := heap_alloc_new w3 (.cells #[.slice A 0 c, .int .u8 0, .string ⟨#[]⟩, .slice B 0 d] 30)
  have al4 := below_alloc (Below.refl _ w3) (.cells #[.slice A 0 c, .int .u8 0, .string ⟨#[]⟩, .slice B 0 d] 30)
  rw [← hP2] at h2
  have HP2 := hid hP2
  have s3 : S ≤ w3.heap.size := by have := lt_of_block g3; omega
  have h1 := below_heap al4 g3
  have a4 := a3.alloc s3 (.cells #[.slice A 0 c, .int .u8 0, .string ⟨#[]⟩, .slice B 0 d] 30)
  have p4 := p3.below al4
  unfold prfV noPrf
  clear D t3 r3 b3 g2 a2 sa g3 a3 al4 p3 hP2
  go_upto_region 3 with fail
  show Code.wp _ _ _ _ (w3.alloc (.cells #[.slice A 0 c, .int .u8 0, .string ⟨#[]⟩, .slice B 0 d] 30))
  rw [← HP2.out]
  generalize w3.alloc (.cells #[.slice A 0 c, .int .u8 0, .string ⟨#[]⟩, .slice B 0 d] 30) = w4 at *
  have s4 : P1 < w4.heap.size := lt_of_block h1
  have s4' : P2 < w4.heap.size := lt_of_block h2
  have E := hid (enc_any (w := w4) (A := none) (c := 0) (B := none) (d := 0) (k := 0) (m := 0) (p := noPrf) rfl rfl (TxtAt.nil w4) (BSA.nil w4) ⟨by decide, by decide, by decide, by decide⟩)
  obtain ⟨v0, v1, v2, v3, -, -, -, -⟩ := four h1
  obtain ⟨u0, u1, u2, u3, -, -, -, -⟩ := four h2
  have G := hid (And.intro h1 (And.intro h2 (And.intro p4 a4)))
  clear h1 h2 p4 a4
  go_wp2_with fail
  refine E.out.mono ?_
  rintro e w5 ⟨A5, c5, rfl, r5, b5⟩
  rw [enc_none] at r5 ⊢
  have q6 := lits_bsa w5 [0, 0, 0] (by simp)
  have al6 := below_alloc (Below.refl _ w5) (.cells (bytesV [0, 0, 0]).toArray 5)
  have b6 := below_then b5 al6
  have BB := bytes_n (n := 3) (m := 3) rfl rfl (r5.bsa.below al6) q6
  rw [show decide (([0, 0, 0] : List UInt8) = [0, 0, 0]) = true by simp] at BB
  have HB := hid BB
  have h1 := below_heap b6 G.out.1
  have h2 := below_heap b6 G.out.2.1
  have p6 := G.out.2.2.1.below b6
  have a6 := G.out.2.2.2.trans (b6.mono (by omega))
  clear BB G E r5 q6 al6 b5 b6 v0 v1 v2 v3 u0 u1 u2 u3
  go_wp2_with fail
  refine HB.out.mono ?_
  rintro e w7 ⟨rfl, b7⟩
  have sz6 := lt_of_block h1
  have k1 := below_heap b7 h1
  have k2 := below_heap b7 h2
  have p7 := p6.below b7
  have a7 := a6.trans (b7.mono (by omega))
  clear HB h1 h2 p6 a6 b7 sz6
  obtain ⟨v0, v1, v2, v3, -, -, -, -⟩ := four k1
  obtain ⟨u0, u1, u2, u3, -, -, -, -⟩ := four k2
  have p0 : PrfAt w7 none 0 0 none 0 0 noPrf := ⟨rfl, rfl, by omega, TxtAt.nil w7, BSA.nil w7⟩
  have S0 := psame_any p0 p7
  rw [sameB_self] at S0
  have HS0 := hid S0
  have sz := lt_of_block k1
  clear k1 k2 p7 p0 S0
  go_wp2_with fail
  refine HS0.out.mono ?_
  rintro e w8 ⟨rfl, b8⟩
  have a8 := a7.trans (b8.mono (by omega))
  clear HS0
  go_wp2
  go_ret
  exact ⟨rfl, by rw [← HS.out]; exact a8⟩
end Go.Proofs.YtmbgfjcmdolggaaDoor
