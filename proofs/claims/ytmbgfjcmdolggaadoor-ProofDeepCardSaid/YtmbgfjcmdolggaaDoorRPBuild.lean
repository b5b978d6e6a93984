/- The walk of the reference's Build. -/
import Derived.Test.YtmbgfjcmdolggaaDoorRPBuildA
set_option linter.unusedVariables false
set_option linter.unusedSimpArgs false
namespace Go.Proofs.YtmbgfjcmdolggaaDoor
open Go.RowKit PrintLast

set_option maxRecDepth 100000 in
set_option maxHeartbeats 12800000 in
theorem rbuild_any {w : World} {A : Option Addr} {c n : Nat} {l : List RI} {key : ByteArray} (hn : l.length = n) (h : Ready w A l) (hc : n ≤ c) (hb : n ≤ 1000000) (hk : key.size ≤ 1000000) :
    Calls Tryd.prog 28 #[.slice A n c, .string key] w (Built w (buildT (treeF 256 (mapI l)) key)) := by
  have ks : key.size ≤ maxLen := by unfold maxLen; omega
  obtain ⟨g0, g1, al⟩ := alloc2 w (.cells #[.slice none 0 0, .int .u8 0, .string ⟨#[]⟩, .slice none 0 0] 36) (.cells #[.slice none 0 0, .int .u8 0, .string ⟨#[]⟩, .slice none 0 0] 36)
  obtain ⟨S, hS⟩ : ∃ S, S = w.heap.size := ⟨_, rfl⟩
  rw [← hS] at g0 g1 al
  have HS := hid hS
  have HN := hid hn
  have RD := hid h
  clear hS h hn
  go_enter Tryd.func28, Tryd.ntmps28
  go_upto_region 2 with fail
  rw [← HS.out]
  generalize hW : (w.alloc (.cells #[.slice none 0 0, .int .u8 0, .string ⟨#[]⟩, .slice none 0 0] 36)).alloc (.cells #[.slice none 0 0, .int .u8 0, .string ⟨#[]⟩, .slice none 0 0] 36) = W at *
  obtain ⟨b1, hb1⟩ : ∃ b, b = S + 1 := ⟨_, rfl⟩
  rw [← hb1] at g1 ⊢
  have o01 : S < b1 := by omega
  have sW : S ≤ W.heap.size := by have := lt_of_block g0; omega
  clear hW hb1
  go_wp2_with (refine wpList_conv rfl (.tmp 9) rfl key rfl ks ?_)
  intro ga ca w1 _ q1 z1
  have y0 := below_heap z1 g0
  have y1 := below_heap z1 g1
  have yB : Below S w w1 := al.trans (z1.mono sW)
  have H := hid (rsumK hk q1)
  clear q1 z1 g0 g1 al sW ks
  go_wp2_with fail
  refine H.out.mono ?_
  rintro e w2 ⟨rfl, b2⟩
  have g0 := below_heap b2 y0
  have g1 := below_heap b2 y1
  have hB : Below S w w2 := yB.trans (b2.mono (by have := lt_of_block y0; omega))
  have L0 : Txt w2 S none 0 [] := Txt.nil _ _
  have W0 : Hid (walkT (treeF 256 (mapI l)) 0 key = ([] ++ (walkT (treeF (256 - 0) (mapI l)) 0 key).1, (walkT (treeF (256 - 0) (mapI l)) 0 key).2)) := hid rfl
  have RD0 := hid (RD.out.below (show Below w.heap.size w w2 from HS.out ▸ hB))
  have N0 : ([] : List ByteArray).length = 0 := rfl
  clear b2 y0 y1 yB H
  go_upto_block 0 with fail
  generalize hps : pathS key = ps at *
  have HP := hid hps
  clear hps
  go_cut [0] (fun vx wx => ∃ (n' k cA c' : Nat) (A' R : Option Addr) (L : List RI) (LS : List ByteArray), vx = .slice A' n' cA ∧ Hid (L.length = n') ∧ n' ≤ 1000000 ∧ n' ≤ cA ∧ Hid (Ready wx A' L) ∧ k ≤ 256 ∧ Hid (LS.length = k) ∧ Hid (walkT (treeF 256 (mapI l)) 0 key = (LS, endI L)) ∧ Txt wx S R c' LS ∧ wx.heap[S]? = some (.cells #[.slice none 0 0, .int .u8 0, .string ⟨#[]⟩, .slice none 0 0] 36 (0, 0)) ∧ wx.heap[b1]? = some (.cells #[.slice R k c', .int .u8 0, .string ⟨#[]⟩, .slice none 0 0] 36 (0, 0)) ∧ Below S w wx)
  case first =>
    go_wp2
    go_loopw [0, 7] (fun vx i wr => ∃ (j n' cA c' : Nat) (A' R : Option Addr) (L : List RI) (LS : List ByteArray), i = .int .i64 j ∧ j ≤ 256 ∧ vx = .slice A' n' cA ∧ Hid (L.length = n') ∧ n' ≤ 1000000 ∧ n' ≤ cA ∧ Hid (Ready wr A' L) ∧ LS.length = j ∧ Hid (walkT (treeF 256 (mapI l)) 0 key = (LS ++ (walkT (treeF (256 - j) (mapI L)) j key).1, (walkT (treeF (256 - j) (mapI L)) j key).2)) ∧ Txt wr S R c' LS ∧ wr.heap[S]? = some (.cells #[.slice none 0 0, .int .u8 0, .string ⟨#[]⟩, .slice none 0 0] 36 (0, 0)) ∧ wr.heap[b1]? = some (.cells #[.slice R j c', .int .u8 0, .string ⟨#[]⟩, .slice none 0 0] 36 (0, 0)) ∧ Below S w wr) (fun _ i _ => 256 - (intOf i).toNat)
    case atStart => exact ⟨0, n, c, 0, A, none, l, [], rfl, Nat.zero_le _, rfl, HN, hb, hc, RD0, N0, W0, L0, g0, g1, hB⟩
    case round =>
      clear L0 g0 g1 hB N0 W0 RD0 RD HN hb hc n c A
      obtain ⟨j, n, c, c', A, R, L, LS, rfl, hj, rfl, HN, hb, hc, RD, hLS, HW, hL, g0, g1, hB⟩ := hrel
      have LL := hid hLS
      clear hLS
      have sB : S ≤ wr.heap.size := by have := lt_of_block g0; omega
      by_cases hgo : 2 ≤ n ∧ j < 256
      · have t1 : decide ((1 : Int) < (n : Int)) = true := by simp; omega
        have t2 : decide ((j : Int) < 256) = true := by simp; omega
        have v0 := cell_at g1 (i := 0) (v := .slice R j c') rfl
        obtain ⟨b, hbb⟩ : ∃ b, b = btK key j := ⟨_, rfl⟩
        have HBit := hid (rbitK (w := wr) (k := key) (d := j) (by omega))
        rw [← hbb, HP.out] at HBit
        have HBB := hid hbb
        have hb2 : b = 0 ∨ b = 1 := by rw [hbb]; exact btK_two _ _
        have GO := hid hgo
        clear hbb hgo
        rcases hb2 with rfl | rfl
        · go_wp2_with fail
          refine HBit.out.mono ?_
          rintro e w4 ⟨rfl, rfl⟩
          go_upto_region 7 with fail
          have xB : Below S w wr.drew := hB.drew
          have x0 : wr.drew.heap[S]? = some (.cells #[.slice none 0 0, .int .u8 0, .string ⟨#[]⟩, .slice none 0 0] 36 (0, 0)) := g0
          have x1 : wr.drew.heap[b1]? = some (.cells #[.slice R j c', .int .u8 0, .string ⟨#[]⟩, .slice none 0 0] 36 (0, 0)) := g1
          have xL : Txt wr.drew S R c' LS := hL
          have GG := hid (And.intro x0 (And.intro x1 (And.intro xB xL)))
          have RD1 := hid (RD.out.below (Below.refl wr.heap.size wr).drew)
          have H1 : Hid (Calls Tryd.prog 53 #[.slice A n c, .int .i64 (j : Int), .int .i64 (wrap64 1)] wr.drew (GaveI wr.drew (halfR L j 1))) := hid (by
            rw [show wrap64 1 = 1 by unfold wrap64; omega]
            exact rhalf_any HN.out RD1.out.1 RD1.out.2.1 hc hb (by omega))
          obtain ⟨f, hf⟩ : ∃ f, j + 1 + f = 256 := ⟨255 - j, by have := GO.out; omega⟩
          have LO := hid (Nat.le_trans (halfR_length L j 1) (by have := HN.out; omega : L.length ≤ 1000000))
          have DG : Hid (∀ (w : World) (B : Nat) (A : Option Addr) (c n : Nat), (halfR L j 1).length = n → Its w B A c (halfR L j 1) → Calls Tryd.prog 52 #[.slice A n c, .int .i64 (wrap64 ((j : Int) + 1))] w fun e w' => e = .returned (.string (digS (treeF f (mapI (halfR L j 1))))) ∧ Below w.heap.size w w') := hid (fun w B A c n h1 h2 => by
            have := rdig_any f (j + 1) hf w A c n _ h1 h2.at_ (half_keys RD.out.2.1) (half_rows RD.out.2.2.1) (h2.le h1) (by have := LO.out; omega)
            rwa [show ((j + 1 : Nat) : Int) = wrap64 ((j : Int) + 1) by unfold wrap64; omega] at this)
          obtain ⟨q, hq⟩ : ∃ q, q = digS (treeF f (mapI (halfR L j 1))) := ⟨_, rfl⟩
          rw [← hq] at DG
          have NX : Hid (walkT (treeF 256 (mapI l)) 0 key = ((LS ++ [q]) ++ (walkT (treeF (256 - (j + 1)) (mapI (halfR L j 0))) (j + 1) key).1, (walkT (treeF (256 - (j + 1)) (mapI (halfR L j 0))) (j + 1) key).2)) := hid (by
            have h1 := HW.out
            have h3 := HBB.out
            have ef : 256 - (j + 1) = f := by omega
            rw [h1, hq, show 256 - j = f + 1 by omega, ef, treeF_big f (mapI L) (by rw [mapI_length, HN.out]; exact GO.out.1), show 255 - f = j by omega, ← mapI_half, ← mapI_half]
            simp only [walkT]
            rw [← h3]
            simp)
          have ys' : S ≤ wr.drew.heap.size := sB
          have t2' := t2
          clear hq x0 x1 xB xL HBit g0 g1 hL hB HW HBB sB
          refine start_ (n := 14) (S := fun w' => w'.cell? ⟨b1, 0, none⟩ = some (.slice R j c')) (ds := [13]) #[false, false, false, false, false, false, false, false, false, false, false, false, false, false] (by kernel_rfl) rfl rfl (v0) (fun hHeld => ?_)
          refine pure_ (i := 0) (N := some 24) (v := ?_) (a' := ?_) #[true, false, false, false, false, false, false, false, false, false, false, false, false, false] rfl rfl (by kernel_rfl) (fun _ _ _ h => h) (Or.inl ⟨by rfl, ?_⟩) ?_ ?_
          rotate_left
          · intro w'
            go_simp
            with_reducible rfl
          rotate_left
          · simp only [Act.put, List.setIfInBounds_toArray, List.set_cons_zero, List.set_cons_succ, i64_w, i32_w]
            rfl
          refine pure_ (i := 2) (N := some 26) (v := ?_) (a' := ?_) #[true, false, true, false, false, false, false, false, false, false, false, false, false, false] rfl rfl (by kernel_rfl) (fun _ _ _ h => h) (Or.inl ⟨by rfl, ?_⟩) ?_ ?_
          rotate_left
          · intro w'
            go_simp
            with_reducible rfl
          rotate_left
          · simp only [Act.put, List.setIfInBounds_toArray, List.set_cons_zero, List.set_cons_succ, i64_w, i32_w]
            rfl
          refine pure_ (i := 3) (N := some 27) (v := ?_) (a' := ?_) #[true, false, true, true, false, false, false, false, false, false, false, false, false, false] rfl rfl (by kernel_rfl) (fun _ _ _ h => h) (Or.inl ⟨by rfl, ?_⟩) ?_ ?_
          rotate_left
          · intro w'
            go_simp
            with_reducible rfl
          rotate_left
          · simp only [Act.put, List.setIfInBounds_toArray, List.set_cons_zero, List.set_cons_succ, i64_w, i32_w]
            rfl
          refine pure_ (i := 4) (N := some 28) (v := ?_) (a' := ?_) #[true, false, true, true, true, false, false, false, false, false, false, false, false, false] rfl rfl (by kernel_rfl) (fun _ _ _ h => h) (Or.inl ⟨by rfl, ?_⟩) ?_ ?_
          rotate_left
          · intro w'
            go_simp
            with_reducible rfl
          rotate_left
          · simp only [Act.put, List.setIfInBounds_toArray, List.set_cons_zero, List.set_cons_succ, i64_w, i32_w]
            rfl
          refine pure_ (i := 5) (N := some 29) (v := ?_) (a' := ?_) #[true, false, true, true, true, true, false, false, false, false, false, false, false, false] rfl rfl (by kernel_rfl) (fun _ _ _ h => h) (Or.inl ⟨by rfl, ?_⟩) ?_ ?_
          rotate_left
          · intro w'
            go_simp
            with_reducible rfl
          rotate_left
          · simp only [Act.put, List.setIfInBounds_toArray, List.set_cons_zero, List.set_cons_succ, i64_w, i32_w]
            rfl
          refine pure_ (i := 7) (N := some 31) (v := ?_) (a' := ?_) #[true, false, true, true, true, true, false, true, false, false, false, false, false, false] rfl rfl (by kernel_rfl) (fun _ _ _ h => h) (Or.inl ⟨by rfl, ?_⟩) ?_ ?_
          rotate_left
          · intro w'
            go_simp
            with_reducible rfl
          rotate_left
          · simp only [Act.put, List.setIfInBounds_toArray, List.set_cons_zero, List.set_cons_succ, i64_w, i32_w]
            rfl
          refine pure_ (i := 8) (N := some 32) (v := ?_) (a' := ?_) #[true, false, true, true, true, true, false, true, true, false, false, false, false, false] rfl rfl (by kernel_rfl) (fun _ _ _ h => h) (Or.inl ⟨by rfl, ?_⟩) ?_ ?_
          rotate_left
          · intro w'
            go_simp
            with_reducible rfl
          rotate_left
          · simp only [Act.put, List.setIfInBounds_toArray, List.set_cons_zero, List.set_cons_succ, i64_w, i32_w]
            rfl
          refine take_ (i := 1) (N := some 25) (v := ?_) (a' := ?_) #[true, true, true, true, true, true, false, true, true, false, false, false, false, false] rfl rfl (by kernel_rfl) (fun _ _ _ h => h) (Or.inl ⟨by rfl, ?_⟩) hHeld ?_ ?_
          rotate_left
          · intro w' s0
            go_simp
            with_reducible rfl
          rotate_left
          · simp only [Act.put, List.setIfInBounds_toArray, List.set_cons_zero, List.set_cons_succ, i64_w, i32_w]
            rfl
          refine one_ (i := 6) (N := some 30) #[true, true, true, true, true, true, true, true, true, false, false, false, false, false] rfl rfl (by kernel_rfl) (by decide) (fun K hK => ?_)
          refine goes_ Tryd.func53 (by kernel_rfl) rfl #[.slice A n c, .int .i64 (j : Int), .int .i64 (wrap64 1)] (by rfl) rfl rfl (by simp only [List.map_toArray, List.map_cons, List.map_nil]; rfl) ?_
          with_reducible refine (H1.out).mono ?_
          rintro e' w1 ⟨A1, c1, n1, rfl, hn1, i1, d1⟩
          refine ⟨_, rfl, ?_⟩
          have u0 := below_heap d1 GG.out.1
          have u1 := below_heap d1 GG.out.2.1
          have uL := GG.out.2.2.2.below d1
          have uB : Below S w w1 := GG.out.2.2.1.trans (d1.mono ys')
          have us : S ≤ w1.heap.size := by have := lt_of_block u0; omega
          refine hK.out _ _ ((cell_at u1 rfl)) (fun hHeld => ?_)
          clear hK K
          refine norm_ (a' := ?_) ?_ ?_
          rotate_left
          · show Act.put _ (some 30) _ = _
            simp only [Act.put, List.setIfInBounds_toArray, List.set_cons_zero, List.set_cons_succ, i64_w, i32_w]
            rfl
          refine one_ (i := 9) (N := some 33) #[true, true, true, true, true, true, true, true, true, true, false, false, false, false] rfl rfl (by kernel_rfl) (by decide) (fun K hK => ?_)
          refine goes_ Tryd.func52 (by kernel_rfl) rfl #[.slice A1 n1 c1, .int .i64 (wrap64 ((j : Int) + 1))] (by rfl) rfl rfl (by simp only [List.map_toArray, List.map_cons, List.map_nil]; rfl) ?_
          with_reducible refine ((DG.out w1 _ A1 c1 n1 hn1 i1)).mono ?_
          rintro e' w3 ⟨rfl, d3⟩
          refine ⟨_, rfl, ?_⟩
          have y0 := below_heap d3 u0
          have y1 := below_heap d3 u1
          have yL := uL.below d3
          have yB : Below S w w3 := uB.trans (d3.mono us)
          have ys : S ≤ w3.heap.size := by have := lt_of_block y0; omega
          refine hK.out _ _ ((cell_at y1 rfl)) (fun hHeld => ?_)
          clear hK K
          refine norm_ (a' := ?_) ?_ ?_
          rotate_left
          · show Act.put _ (some 33) _ = _
            simp only [Act.put, List.setIfInBounds_toArray, List.set_cons_zero, List.set_cons_succ, i64_w, i32_w]
            rfl
          refine one_ (i := 10) (N := some 34) #[true, true, true, true, true, true, true, true, true, true, true, false, false, false] rfl rfl (by kernel_rfl) (by decide) (fun K hK => ?_)
          refine value_ (w1 := ?_) (v := ?_) (by rfl) rfl ?_ ?_
          rotate_left 2
          · go_simp
            constructor
            · rfl
            · rfl
          have al0 := below_alloc (Below.refl _ w3) (.cells #[.string q] 9)
          refine hK.out _ _ ((below_cell al0 hHeld)) (fun hHeld => ?_)
          clear hK K
          refine norm_ (a' := ?_) ?_ ?_
          rotate_left
          · show Act.put _ (some 34) _ = _
            simp only [Act.put, List.setIfInBounds_toArray, List.set_cons_zero, List.set_cons_succ, i64_w, i32_w]
            rfl
          refine one_ (i := 11) (N := some 35) #[true, true, true, true, true, true, true, true, true, true, true, true, false, false] rfl rfl (by kernel_rfl) (by decide) (fun K hK => ?_)
          refine step_appT rfl (.tmp 25) (.tmp 34) rfl S (Nat.le_trans ys al0.size) R c' j LS rfl LL.out (yL.below al0) _ q rfl (cell_at (heap_alloc_new _ _) rfl) (by omega) ?_
          intro R2 c2 w2 m1 m2 m3
          have e1 := (yL.below al0).beside LL.out m2 (below_heap al0 y1) (by decide)
          have e0 := (yL.below al0).beside LL.out m2 (below_heap al0 y0) (by decide)
          have eX := (yL.below al0).grew LL.out m2 ((Below.refl S w3).alloc ys _) (Nat.le_trans ys al0.size)
          have d0 := cell_at e1 (i := 0) (v := .slice R j c') rfl
          have d1' := free_at e1 0
          refine hK.out _ _ (d0) (fun hHeld => ?_)
          clear hK K
          refine norm_ (a' := ?_) ?_ ?_
          rotate_left
          · show Act.put _ (some 35) _ = _
            simp only [Act.put, List.setIfInBounds_toArray, List.set_cons_zero, List.set_cons_succ, i64_w, i32_w]
            rfl
          refine pure_ (i := 12) (N := some 36) (v := ?_) (a' := ?_) #[true, true, true, true, true, true, true, true, true, true, true, true, true, false] rfl rfl (by kernel_rfl) (fun _ _ _ h => h) (Or.inl ⟨by rfl, ?_⟩) ?_ ?_
          rotate_left
          · intro w'
            go_simp
            with_reducible rfl
          rotate_left
          · simp only [Act.put, List.setIfInBounds_toArray, List.set_cons_zero, List.set_cons_succ, i64_w, i32_w]
            rfl
          refine last_ (i := 13) (N := none) #[true, true, true, true, true, true, true, true, true, true, true, true, true, true] rfl rfl (by kernel_rfl) (by decide) (fun K hK => ?_)
          refine skip_ (w1 := ?_) (by rfl) rfl ?_ ?_
          rotate_left
          · go_simp
            rfl
          refine hK.out _ _ ?_
          clear hK K
          refine done_ (by kernel_rfl) ?_
          have e1' : (w2.setCell ⟨b1, 0, none⟩ (.slice R2 (j + 1) c2)).heap[b1]? = some (.cells #[.slice R2 (j + 1) c2, .int .u8 0, .string ⟨#[]⟩, .slice none 0 0] 36 (0, 0)) := by rw [heap_set e1]; rfl
          have e0' := (keeps_one w2 b1 0 (.slice R2 (j + 1) c2)).heap e0 (by omega)
          have eL' := m1.far (keeps_one w2 b1 0 (.slice R2 (j + 1) c2)) e1 (by decide)
          have eX' := eX.setCell (p := ⟨b1, 0, none⟩) (show S ≤ b1 by omega) (.slice R2 (j + 1) c2)
          have eB' := yB.trans eX'
          have LNH := hid (show (LS ++ [q]).length = j + 1 by rw [List.length_append, List.length_singleton, LL.out])
          have RDW := hid (rd_move RD1.out d1 d3 al0 m2 (keeps_one w2 b1 0 (.slice R2 (j + 1) c2)) (yL.below al0) LL.out e1)
          clear m1 m2 m3 e1 e0 eX eX' d0 d1 d1' al0 GG v0 y0 y1 yL yB ys u0 u1 uL uB us i1 hn1 d3 H1 DG RD1 RD
          generalize w2.setCell ⟨b1, 0, none⟩ (.slice R2 (j + 1) c2) = w5 at *
          have H2 : Hid (Calls Tryd.prog 53 #[.slice A n c, .int .i64 (j : Int), .int .i64 0] w5 (GaveI w5 (halfR L j 0))) := hid (rhalf_any HN.out RDW.out.1 RDW.out.2.1 hc hb (by omega))
          go_wp2_with fail
          refine H2.out.mono ?_
          rintro e w6 ⟨A6, c6, n6, rfl, hn6, i6, b6⟩
          have f0 := below_heap b6 e0'
          have f1 := below_heap b6 e1'
          have fL := eL'.below b6
          have fB : Below S w w6 := eB'.trans (b6.mono (by have := lt_of_block e0'; omega))
          have n6b : n6 ≤ 1000000 := by have := halfR_length L j 0; have := HN.out; omega
          have c6b := i6.le hn6
          have RN : Hid (Ready w6 A6 (halfR L j 0)) := hid ⟨i6.at_, half_keys RDW.out.2.1, half_rows RDW.out.2.2.1, i6.typed⟩
          have HN6 := hid hn6
          have hj1 : j + 1 ≤ 256 := by have := GO.out; omega
          have MS : Hid (j < 256) := hid GO.out.2
          clear H2 e0' e1' eL' eB' b6 i6 hn6 RDW GO t1
          go_wp2
          go_roundw
          case rel => exact ⟨j + 1, n6, c6, c2, A6, R2, halfR L j 0, LS ++ [q], by go_num, hj1, rfl, HN6, n6b, c6b, RN, LNH.out, NX, fL, f0, f1, fB⟩
          case measure => have := MS.out; simp [intOf]; omega
        · go_wp2_with fail
          refine HBit.out.mono ?_
          rintro e w4 ⟨rfl, rfl⟩
          go_upto_region 7 with fail
          have xB : Below S w wr.drew := hB.drew
          have x0 : wr.drew.heap[S]? = some (.cells #[.slice none 0 0, .int .u8 0, .string ⟨#[]⟩, .slice none 0 0] 36 (0, 0)) := g0
          have x1 : wr.drew.heap[b1]? = some (.cells #[.slice R j c', .int .u8 0, .string ⟨#[]⟩, .slice none 0 0] 36 (0, 0)) := g1
          have xL : Txt wr.drew S R c' LS := hL
          have GG := hid (And.intro x0 (And.intro x1 (And.intro xB xL)))
          have RD1 := hid (RD.out.below (Below.refl wr.heap.size wr).drew)
          have H1 : Hid (Calls Tryd.prog 53 #[.slice A n c, .int .i64 (j : Int), .int .i64 (wrap64 0)] wr.drew (GaveI wr.drew (halfR L j 0))) := hid (by
            rw [show wrap64 0 = 0 by unfold wrap64; omega]
            exact rhalf_any HN.out RD1.out.1 RD1.out.2.1 hc hb (by omega))
          obtain ⟨f, hf⟩ : ∃ f, j + 1 + f = 256 := ⟨255 - j, by have := GO.out; omega⟩
          have LO := hid (Nat.le_trans (halfR_length L j 0) (by have := HN.out; omega : L.length ≤ 1000000))
          have DG : Hid (∀ (w : World) (B : Nat) (A : Option Addr) (c n : Nat), (halfR L j 0).length = n → Its w B A c (halfR L j 0) → Calls Tryd.prog 52 #[.slice A n c, .int .i64 (wrap64 ((j : Int) + 1))] w fun e w' => e = .returned (.string (digS (treeF f (mapI (halfR L j 0))))) ∧ Below w.heap.size w w') := hid (fun w B A c n h1 h2 => by
            have := rdig_any f (j + 1) hf w A c n _ h1 h2.at_ (half_keys RD.out.2.1) (half_rows RD.out.2.2.1) (h2.le h1) (by have := LO.out; omega)
            rwa [show ((j + 1 : Nat) : Int) = wrap64 ((j : Int) + 1) by unfold wrap64; omega] at this)
          obtain ⟨q, hq⟩ : ∃ q, q = digS (treeF f (mapI (halfR L j 0))) := ⟨_, rfl⟩
          rw [← hq] at DG
          have NX : Hid (walkT (treeF 256 (mapI l)) 0 key = ((LS ++ [q]) ++ (walkT (treeF (256 - (j + 1)) (mapI (halfR L j 1))) (j + 1) key).1, (walkT (treeF (256 - (j + 1)) (mapI (halfR L j 1))) (j + 1) key).2)) := hid (by
            have h1 := HW.out
            have h3 := HBB.out
            have ef : 256 - (j + 1) = f := by omega
            rw [h1, hq, show 256 - j = f + 1 by omega, ef, treeF_big f (mapI L) (by rw [mapI_length, HN.out]; exact GO.out.1), show 255 - f = j by omega, ← mapI_half, ← mapI_half]
            simp only [walkT]
            rw [← h3]
            simp)
          have ys' : S ≤ wr.drew.heap.size := sB
          have t2' := t2
          clear hq x0 x1 xB xL HBit g0 g1 hL hB HW HBB sB
          refine start_ (n := 14) (S := fun w' => w'.cell? ⟨b1, 0, none⟩ = some (.slice R j c')) (ds := [13]) #[false, false, false, false, false, false, false, false, false, false, false, false, false, false] (by kernel_rfl) rfl rfl (v0) (fun hHeld => ?_)
          refine pure_ (i := 0) (N := some 24) (v := ?_) (a' := ?_) #[true, false, false, false, false, false, false, false, false, false, false, false, false, false] rfl rfl (by kernel_rfl) (fun _ _ _ h => h) (Or.inl ⟨by rfl, ?_⟩) ?_ ?_
          rotate_left
          · intro w'
            go_simp
            with_reducible rfl
          rotate_left
          · simp only [Act.put, List.setIfInBounds_toArray, List.set_cons_zero, List.set_cons_succ, i64_w, i32_w]
            rfl
          refine pure_ (i := 2) (N := some 26) (v := ?_) (a' := ?_) #[true, false, true, false, false, false, false, false, false, false, false, false, false, false] rfl rfl (by kernel_rfl) (fun _ _ _ h => h) (Or.inl ⟨by rfl, ?_⟩) ?_ ?_
          rotate_left
          · intro w'
            go_simp
            with_reducible rfl
          rotate_left
          · simp only [Act.put, List.setIfInBounds_toArray, List.set_cons_zero, List.set_cons_succ, i64_w, i32_w]
            rfl
          refine pure_ (i := 3) (N := some 27) (v := ?_) (a' := ?_) #[true, false, true, true, false, false, false, false, false, false, false, false, false, false] rfl rfl (by kernel_rfl) (fun _ _ _ h => h) (Or.inl ⟨by rfl, ?_⟩) ?_ ?_
          rotate_left
          · intro w'
            go_simp
            with_reducible rfl
          rotate_left
          · simp only [Act.put, List.setIfInBounds_toArray, List.set_cons_zero, List.set_cons_succ, i64_w, i32_w]
            rfl
          refine pure_ (i := 4) (N := some 28) (v := ?_) (a' := ?_) #[true, false, true, true, true, false, false, false, false, false, false, false, false, false] rfl rfl (by kernel_rfl) (fun _ _ _ h => h) (Or.inl ⟨by rfl, ?_⟩) ?_ ?_
          rotate_left
          · intro w'
            go_simp
            with_reducible rfl
          rotate_left
          · simp only [Act.put, List.setIfInBounds_toArray, List.set_cons_zero, List.set_cons_succ, i64_w, i32_w]
            rfl
          refine pure_ (i := 5) (N := some 29) (v := ?_) (a' := ?_) #[true, false, true, true, true, true, false, false, false, false, false, false, false, false] rfl rfl (by kernel_rfl) (fun _ _ _ h => h) (Or.inl ⟨by rfl, ?_⟩) ?_ ?_
          rotate_left
          · intro w'
            go_simp
            with_reducible rfl
          rotate_left
          · simp only [Act.put, List.setIfInBounds_toArray, List.set_cons_zero, List.set_cons_succ, i64_w, i32_w]
            rfl
          refine pure_ (i := 7) (N := some 31) (v := ?_) (a' := ?_) #[true, false, true, true, true, true, false, true, false, false, false, false, false, false] rfl rfl (by kernel_rfl) (fun _ _ _ h => h) (Or.inl ⟨by rfl, ?_⟩) ?_ ?_
          rotate_left
          · intro w'
            go_simp
            with_reducible rfl
          rotate_left
          · simp only [Act.put, List.setIfInBounds_toArray, List.set_cons_zero, List.set_cons_succ, i64_w, i32_w]
            rfl
          refine pure_ (i := 8) (N := some 32) (v := ?_) (a' := ?_) #[true, false, true, true, true, true, false, true, true, false, false, false, false, false] rfl rfl (by kernel_rfl) (fun _ _ _ h => h) (Or.inl ⟨by rfl, ?_⟩) ?_ ?_
          rotate_left
          · intro w'
            go_simp
            with_reducible rfl
          rotate_left
          · simp only [Act.put, List.setIfInBounds_toArray, List.set_cons_zero, List.set_cons_succ, i64_w, i32_w]
            rfl
          refine take_ (i := 1) (N := some 25) (v := ?_) (a' := ?_) #[true, true, true, true, true, true, false, true, true, false, false, false, false, false] rfl rfl (by kernel_rfl) (fun _ _ _ h => h) (Or.inl ⟨by rfl, ?_⟩) hHeld ?_ ?_
          rotate_left
          · intro w' s0
            go_simp
            with_reducible rfl
          rotate_left
          · simp only [Act.put, List.setIfInBounds_toArray, List.set_cons_zero, List.set_cons_succ, i64_w, i32_w]
            rfl
          refine one_ (i := 6) (N := some 30) #[true, true, true, true, true, true, true, true, true, false, false, false, false, false] rfl rfl (by kernel_rfl) (by decide) (fun K hK => ?_)
          refine goes_ Tryd.func53 (by kernel_rfl) rfl #[.slice A n c, .int .i64 (j : Int), .int .i64 (wrap64 0)] (by rfl) rfl rfl (by simp only [List.map_toArray, List.map_cons, List.map_nil]; rfl) ?_
          with_reducible refine (H1.out).mono ?_
          rintro e' w1 ⟨A1, c1, n1, rfl, hn1, i1, d1⟩
          refine ⟨_, rfl, ?_⟩
          have u0 := below_heap d1 GG.out.1
          have u1 := below_heap d1 GG.out.2.1
          have uL := GG.out.2.2.2.below d1
          have uB : Below S w w1 := GG.out.2.2.1.trans (d1.mono ys')
          have us : S ≤ w1.heap.size := by have := lt_of_block u0; omega
          refine hK.out _ _ ((cell_at u1 rfl)) (fun hHeld => ?_)
          clear hK K
          refine norm_ (a' := ?_) ?_ ?_
          rotate_left
          · show Act.put _ (some 30) _ = _
            simp only [Act.put, List.setIfInBounds_toArray, List.set_cons_zero, List.set_cons_succ, i64_w, i32_w]
            rfl
          refine one_ (i := 9) (N := some 33) #[true, true, true, true, true, true, true, true, true, true, false, false, false, false] rfl rfl (by kernel_rfl) (by decide) (fun K hK => ?_)
          refine goes_ Tryd.func52 (by kernel_rfl) rfl #[.slice A1 n1 c1, .int .i64 (wrap64 ((j : Int) + 1))] (by rfl) rfl rfl (by simp only [List.map_toArray, List.map_cons, List.map_nil]; rfl) ?_
          with_reducible refine ((DG.out w1 _ A1 c1 n1 hn1 i1)).mono ?_
          rintro e' w3 ⟨rfl, d3⟩
          refine ⟨_, rfl, ?_⟩
          have y0 := below_heap d3 u0
          have y1 := below_heap d3 u1
          have yL := uL.below d3
          have yB : Below S w w3 := uB.trans (d3.mono us)
          have ys : S ≤ w3.heap.size := by have := lt_of_block y0; omega
          refine hK.out _ _ ((cell_at y1 rfl)) (fun hHeld => ?_)
          clear hK K
          refine norm_ (a' := ?_) ?_ ?_
          rotate_left
          · show Act.put _ (some 33) _ = _
            simp only [Act.put, List.setIfInBounds_toArray, List.set_cons_zero, List.set_cons_succ, i64_w, i32_w]
            rfl
          refine one_ (i := 10) (N := some 34) #[true, true, true, true, true, true, true, true, true, true, true, false, false, false] rfl rfl (by kernel_rfl) (by decide) (fun K hK => ?_)
          refine value_ (w1 := ?_) (v := ?_) (by rfl) rfl ?_ ?_
          rotate_left 2
          · go_simp
            constructor
            · rfl
            · rfl
          have al0 := below_alloc (Below.refl _ w3) (.cells #[.string q] 9)
          refine hK.out _ _ ((below_cell al0 hHeld)) (fun hHeld => ?_)
          clear hK K
          refine norm_ (a' := ?_) ?_ ?_
          rotate_left
          · show Act.put _ (some 34) _ = _
            simp only [Act.put, List.setIfInBounds_toArray, List.set_cons_zero, List.set_cons_succ, i64_w, i32_w]
            rfl
          refine one_ (i := 11) (N := some 35) #[true, true, true, true, true, true, true, true, true, true, true, true, false, false] rfl rfl (by kernel_rfl) (by decide) (fun K hK => ?_)
          refine step_appT rfl (.tmp 25) (.tmp 34) rfl S (Nat.le_trans ys al0.size) R c' j LS rfl LL.out (yL.below al0) _ q rfl (cell_at (heap_alloc_new _ _) rfl) (by omega) ?_
          intro R2 c2 w2 m1 m2 m3
          have e1 := (yL.below al0).beside LL.out m2 (below_heap al0 y1) (by decide)
          have e0 := (yL.below al0).beside LL.out m2 (below_heap al0 y0) (by decide)
          have eX := (yL.below al0).grew LL.out m2 ((Below.refl S w3).alloc ys _) (Nat.le_trans ys al0.size)
          have d0 := cell_at e1 (i := 0) (v := .slice R j c') rfl
          have d1' := free_at e1 0
          refine hK.out _ _ (d0) (fun hHeld => ?_)
          clear hK K
          refine norm_ (a' := ?_) ?_ ?_
          rotate_left
          · show Act.put _ (some 35) _ = _
            simp only [Act.put, List.setIfInBounds_toArray, List.set_cons_zero, List.set_cons_succ, i64_w, i32_w]
            rfl
          refine pure_ (i := 12) (N := some 36) (v := ?_) (a' := ?_) #[true, true, true, true, true, true, true, true, true, true, true, true, true, false] rfl rfl (by kernel_rfl) (fun _ _ _ h => h) (Or.inl ⟨by rfl, ?_⟩) ?_ ?_
          rotate_left
          · intro w'
            go_simp
            with_reducible rfl
          rotate_left
          · simp only [Act.put, List.setIfInBounds_toArray, List.set_cons_zero, List.set_cons_succ, i64_w, i32_w]
            rfl
          refine last_ (i := 13) (N := none) #[true, true, true, true, true, true, true, true, true, true, true, true, true, true] rfl rfl (by kernel_rfl) (by decide) (fun K hK => ?_)
          refine skip_ (w1 := ?_) (by rfl) rfl ?_ ?_
          rotate_left
          · go_simp
            rfl
          refine hK.out _ _ ?_
          clear hK K
          refine done_ (by kernel_rfl) ?_
          have e1' : (w2.setCell ⟨b1, 0, none⟩ (.slice R2 (j + 1) c2)).heap[b1]? = some (.cells #[.slice R2 (j + 1) c2, .int .u8 0, .string ⟨#[]⟩, .slice none 0 0] 36 (0, 0)) := by rw [heap_set e1]; rfl
          have e0' := (keeps_one w2 b1 0 (.slice R2 (j + 1) c2)).heap e0 (by omega)
          have eL' := m1.far (keeps_one w2 b1 0 (.slice R2 (j + 1) c2)) e1 (by decide)
          have eX' := eX.setCell (p := ⟨b1, 0, none⟩) (show S ≤ b1 by omega) (.slice R2 (j + 1) c2)
          have eB' := yB.trans eX'
          have LNH := hid (show (LS ++ [q]).length = j + 1 by rw [List.length_append, List.length_singleton, LL.out])
          have RDW := hid (rd_move RD1.out d1 d3 al0 m2 (keeps_one w2 b1 0 (.slice R2 (j + 1) c2)) (yL.below al0) LL.out e1)
          clear m1 m2 m3 e1 e0 eX eX' d0 d1 d1' al0 GG v0 y0 y1 yL yB ys u0 u1 uL uB us i1 hn1 d3 H1 DG RD1 RD
          generalize w2.setCell ⟨b1, 0, none⟩ (.slice R2 (j + 1) c2) = w5 at *
          have H2 : Hid (Calls Tryd.prog 53 #[.slice A n c, .int .i64 (j : Int), .int .i64 1] w5 (GaveI w5 (halfR L j 1))) := hid (rhalf_any HN.out RDW.out.1 RDW.out.2.1 hc hb (by omega))
          go_wp2_with fail
          refine H2.out.mono ?_
          rintro e w6 ⟨A6, c6, n6, rfl, hn6, i6, b6⟩
          have f0 := below_heap b6 e0'
          have f1 := below_heap b6 e1'
          have fL := eL'.below b6
          have fB : Below S w w6 := eB'.trans (b6.mono (by have := lt_of_block e0'; omega))
          have n6b : n6 ≤ 1000000 := by have := halfR_length L j 1; have := HN.out; omega
          have c6b := i6.le hn6
          have RN : Hid (Ready w6 A6 (halfR L j 1)) := hid ⟨i6.at_, half_keys RDW.out.2.1, half_rows RDW.out.2.2.1, i6.typed⟩
          have HN6 := hid hn6
          have hj1 : j + 1 ≤ 256 := by have := GO.out; omega
          have MS : Hid (j < 256) := hid GO.out.2
          clear H2 e0' e1' eL' eB' b6 i6 hn6 RDW GO t1
          go_wp2
          go_roundw
          case rel => exact ⟨j + 1, n6, c6, c2, A6, R2, halfR L j 1, LS ++ [q], by go_num, hj1, rfl, HN6, n6b, c6b, RN, LNH.out, NX, fL, f0, f1, fB⟩
          case measure => have := MS.out; simp [intOf]; omega
      · have E : Hid (walkT (treeF 256 (mapI l)) 0 key = (LS, endI L)) := hid (by
          rw [HW.out, end_few HN.out (by omega)]
          simp)
        have EE := hid (And.intro g0 (And.intro g1 (And.intro hL hB)))
        clear g0 g1 hL hB HW sB
        by_cases h1 : n ≤ 1
        · have t1 : decide ((1 : Int) < (n : Int)) = false := by simp; omega
          clear hgo h1
          go_wp2
          go_meet
          exact ⟨n, j, c, c', A, R, L, LS, rfl, HN, hb, hc, RD, hj, LL, E, EE.out.2.2.1, EE.out.1, EE.out.2.1, EE.out.2.2.2⟩
        · have t1 : decide ((1 : Int) < (n : Int)) = true := by simp; omega
          have t2 : decide ((j : Int) < 256) = false := by simp; omega
          clear hgo h1
          go_wp2
          go_meet
          exact ⟨n, j, c, c', A, R, L, LS, rfl, HN, hb, hc, RD, hj, LL, E, EE.out.2.2.1, EE.out.1, EE.out.2.1, EE.out.2.2.2⟩
  case rest =>
    clear L0 g0 g1 hB N0 W0 RD0 RD HN hb hc n c A
    obtain ⟨n, k, c, c', A, R, L, LS, rfl, HN, hb, hc, RD, hkk, LL, HW, hL, g0, g1, hB⟩ := hcut
    have sB : S ≤ wc.heap.size := by have := lt_of_block g0; omega
    by_cases h0 : n = 0
    · have t0 : ((n : Int) == 0) = true := by rw [beq_iff_eq]; omega
      have PB := hid (show buildT (treeF 256 (mapI l)) key = ⟨LS, 0, ⟨#[]⟩, []⟩ by
        have h1 := HN.out
        have h2 : L = [] := List.eq_nil_of_length_eq_zero (by omega)
        unfold buildT
        rw [HW.out, h2]
        rfl)
      clear h0
      have rN := Row.nil wc S
      obtain ⟨u0, u1, u2, u3, u0', u1', u2', u3'⟩ := four g0
      obtain ⟨p0, p1, p2, p3, p0', p1', p2', p3'⟩ := four g1
      have E := hid (rbuilt_end (P := ⟨LS, 0, ⟨#[]⟩, []⟩) HS.out g0 hL rN LL.out rfl rfl rfl hB)
      have G := hid (set4_heap (a := .slice R k c') (b := .int .u8 0) (c := .string ⟨#[]⟩) (d := .slice none 0 0) g0)
      clear g0 g1 hL hB rN
      go_wp2
      refine bodyPost_ret (ret_cell_one rfl rfl G.out Tryd.underlying36 rfl infRP) rfl ?_
      rw [PB.out]
      exact E.out
    · have t0 : ((n : Int) == 0) = false := by rw [beq_eq_false_iff_ne]; omega
      obtain ⟨x, L', rfl⟩ : ∃ x L', L = x :: L' := by
        cases L with
        | nil => exact absurd HN.out.symm (by simpa using h0)
        | cons x L' => exact ⟨x, L', rfl⟩
      obtain ⟨g, o, rfl, q0, q1⟩ := RD.out.1.at_ 0 (by simp)
      replace q0 : wc.cell? ⟨g, o, none⟩ = some (.string x.key) := by simpa using q0
      replace q1 : wc.cell? ⟨g, o + 1, none⟩ = some (.slice x.A x.row.length x.c) := by simpa using q1
      have rX := RD.out.1.2.2 x (by simp)
      have xr := RD.out.2.2.1 x (by simp)
      obtain ⟨cur, hgt⟩ := RD.out.2.2.2 g o rfl
      have gb : g ≠ b1 := fun e => by
        rw [e, g1] at hgt
        simp at hgt
      have n0 : decide (0 < n) = true := by simp; omega
      have n0' : decide ((0 : Int) < (n : Int)) = true := by simp; omega
      have hn0 : 0 < n := by omega
      obtain ⟨m, hm⟩ : ∃ m, m = x.row.length := ⟨_, rfl⟩
      rw [← hm] at q1 xr
      have HM := hid hm
      obtain ⟨xk, hxk⟩ : ∃ xk, xk = x.key := ⟨_, rfl⟩
      rw [← hxk] at q0
      have HX := hid hxk
      have HJ := hid (copy_own hm.symm rX.bsa xr)
      have P0 := hid (show buildT (treeF 256 (mapI l)) key = endT LS (.leaf x.itm) key by unfold buildT; rw [HW.out]; rfl)
      clear rX xr h0 RD hm hxk HN HW hgt
      go_wp2_with fail
      refine HJ.out.mono ?_
      rintro e w3 ⟨RA, rd, rfl, r3, b3⟩
      have y0 := below_heap b3 g0
      have y1 := below_heap b3 g1
      have yL := hL.below b3
      have yB : Below S w w3 := hB.trans (b3.mono sB)
      have yr : Row w3 S RA rd x.row := r3.lower sB
      replace q0 := below_cell b3 q0
      clear g0 g1 hL hB b3 r3 HJ sB q1
      obtain ⟨p0, p1, p2, p3, p0', p1', p2', p3'⟩ := four y1
      have x01 : (w3.setCell ⟨b1, 3, none⟩ (.slice RA m rd)).heap[b1]? = some (.cells #[.slice R k c', .int .u8 0, .string ⟨#[]⟩, .slice RA m rd] 36 (0, 0)) := by rw [heap_set y1]; rfl
      have x00 := (keeps_one w3 b1 3 (.slice RA m rd)).heap y0 (by omega)
      have x0L := yL.far (keeps_one w3 b1 3 (.slice RA m rd)) y1 (by decide)
      have x0r := yr.far (keeps_one w3 b1 3 (.slice RA m rd)) y1 (by decide)
      have x0B := yB.setCell (p := ⟨b1, 3, none⟩) (show S ≤ b1 by omega) (.slice RA m rd)
      replace q0 := (keeps_one w3 b1 3 (.slice RA m rd)).cell q0 gb
      clear y0 y1 yL yr yB
      have x11 : ((w3.setCell ⟨b1, 3, none⟩ (.slice RA m rd)).setCell ⟨b1, 1, none⟩ (.int .u8 1)).heap[b1]? = some (.cells #[.slice R k c', .int .u8 1, .string ⟨#[]⟩, .slice RA m rd] 36 (0, 0)) := by rw [heap_set x01]; rfl
      have x10 := (keeps_one (w3.setCell ⟨b1, 3, none⟩ (.slice RA m rd)) b1 1 (.int .u8 1)).heap x00 (by omega)
      have x1L := x0L.far (keeps_one (w3.setCell ⟨b1, 3, none⟩ (.slice RA m rd)) b1 1 (.int .u8 1)) x01 (by decide)
      have x1r := x0r.far (keeps_one (w3.setCell ⟨b1, 3, none⟩ (.slice RA m rd)) b1 1 (.int .u8 1)) x01 (by decide)
      have x1B := x0B.setCell (p := ⟨b1, 1, none⟩) (show S ≤ b1 by omega) (.int .u8 1)
      replace q0 := (keeps_one (w3.setCell ⟨b1, 3, none⟩ (.slice RA m rd)) b1 1 (.int .u8 1)).cell q0 gb
      clear x00 x01 x0L x0r x0B
      go_upto_region 13 with fail
      generalize ((w3.setCell ⟨b1, 3, none⟩ (.slice RA m rd)).setCell ⟨b1, 1, none⟩ (.int .u8 1)) = X at *
      clear p0 p1 p2 p3 p0' p1' p2' p3'
      by_cases hk : xk = key
      · have tk : (xk.toList == key.toList) = true := by rw [hk]; simp
        have PB := hid (show buildT (treeF 256 (mapI l)) key = ⟨LS, 1, ⟨#[]⟩, x.row⟩ from P0.out.trans (endT_same (x := x.itm) (HX.out.symm.trans hk)))
        clear P0 hk
        obtain ⟨u0, u1, u2, u3, u0', u1', u2', u3'⟩ := four x10
        obtain ⟨p0, p1, p2, p3, p0', p1', p2', p3'⟩ := four x11
        have E := hid (rbuilt_end (P := ⟨LS, 1, ⟨#[]⟩, x.row⟩) HS.out x10 x1L x1r LL.out HM.out.symm rfl rfl x1B)
        have G := hid (set4_heap (a := .slice R k c') (b := .int .u8 1) (c := .string ⟨#[]⟩) (d := .slice RA m rd) x10)
        clear x10 x11 x1L x1r x1B
        go_wp2
        refine bodyPost_ret (ret_cell_one rfl rfl G.out Tryd.underlying36 rfl infRP) rfl ?_
        rw [PB.out]
        exact E.out
      · have tk : (xk.toList == key.toList) = false := by rw [str_beq]; simp [hk]
        have PB := hid (show buildT (treeF 256 (mapI l)) key = ⟨LS, 2, xk, x.row⟩ by rw [HX.out]; exact P0.out.trans (endT_other (x := x.itm) (fun h => hk (HX.out.trans h))))
        clear P0 hk
        obtain ⟨p0, p1, p2, p3, p0', p1', p2', p3'⟩ := four x11
        go_wp2
        have X0 := x10
        have X1 := x11
        have XL := x1L
        have Xr := x1r
        have XB := x1B
        clear x10 x11 x1L x1r x1B
        refine start_ (n := 8) (S := fun w' => w'.cell? ⟨g, o, none⟩ = some (.string xk)) (ds := []) #[false, false, false, false, false, false, false, false] (by kernel_rfl) rfl rfl (q0) (fun hHeld => ?_)
        refine pure_ (i := 0) (N := some 58) (v := ?_) (a' := ?_) #[true, false, false, false, false, false, false, false] rfl rfl (by kernel_rfl) (fun _ _ _ h => h) (Or.inl ⟨by rfl, ?_⟩) ?_ ?_
        rotate_left
        · intro w'
          go_simp
          with_reducible rfl
        rotate_left
        · simp only [Act.put, List.setIfInBounds_toArray, List.set_cons_zero, List.set_cons_succ, i64_w, i32_w]
          rfl
        refine pure_ (i := 1) (N := some 59) (v := ?_) (a' := ?_) #[true, true, false, false, false, false, false, false] rfl rfl (by kernel_rfl) (fun _ _ _ h => h) (Or.inl ⟨by rfl, ?_⟩) ?_ ?_
        rotate_left
        · intro w'
          go_simp
          with_reducible rfl
        rotate_left
        · simp only [Act.put, List.setIfInBounds_toArray, List.set_cons_zero, List.set_cons_succ, i64_w, i32_w]
          rfl
        refine pure_ (i := 2) (N := some 60) (v := ?_) (a' := ?_) #[true, true, true, false, false, false, false, false] rfl rfl (by kernel_rfl) (fun _ _ _ h => h) (Or.inl ⟨by rfl, ?_⟩) ?_ ?_
        rotate_left
        · intro w'
          go_simp
          with_reducible rfl
        rotate_left
        · simp only [Act.put, List.setIfInBounds_toArray, List.set_cons_zero, List.set_cons_succ, i64_w, i32_w]
          rfl
        refine pure_ (i := 4) (N := some 62) (v := ?_) (a' := ?_) #[true, true, true, false, true, false, false, false] rfl rfl (by kernel_rfl) (fun _ _ _ h => h) (Or.inl ⟨by rfl, ?_⟩) ?_ ?_
        rotate_left
        · intro w'
          go_simp
          with_reducible rfl
        rotate_left
        · simp only [Act.put, List.setIfInBounds_toArray, List.set_cons_zero, List.set_cons_succ, i64_w, i32_w]
          rfl
        refine take_ (i := 3) (N := some 61) (v := ?_) (a' := ?_) #[true, true, true, true, true, false, false, false] rfl rfl (by kernel_rfl) (fun _ _ _ h => h) (Or.inl ⟨by rfl, ?_⟩) hHeld ?_ ?_
        rotate_left
        · intro w' s0
          go_simp
          with_reducible rfl
        rotate_left
        · simp only [Act.put, List.setIfInBounds_toArray, List.set_cons_zero, List.set_cons_succ, i64_w, i32_w]
          rfl
        refine one_ (i := 5) (N := none) #[true, true, true, true, true, true, false, false] rfl rfl (by kernel_rfl) (by decide) (fun K hK => ?_)
        refine skip_ (w1 := ?_) (by rfl) rfl ?_ ?_
        rotate_left
        · go_simp
          rfl
        refine hK.out _ _ (((keeps_one _ b1 1 _).cell hHeld gb)) (fun hHeld => ?_)
        clear hK K
        refine pure_ (i := 6) (N := some 63) (v := ?_) (a' := ?_) #[true, true, true, true, true, true, true, false] rfl rfl (by kernel_rfl) (fun _ _ _ h => h) (Or.inl ⟨by rfl, ?_⟩) ?_ ?_
        rotate_left
        · intro w'
          go_simp
          with_reducible rfl
        rotate_left
        · simp only [Act.put, List.setIfInBounds_toArray, List.set_cons_zero, List.set_cons_succ, i64_w, i32_w]
          rfl
        refine one_ (i := 7) (N := none) #[true, true, true, true, true, true, true, true] rfl rfl (by kernel_rfl) (by decide) (fun K hK => ?_)
        refine skip_ (w1 := ?_) (by rfl) rfl ?_ ?_
        rotate_left
        · go_simp
          rfl
        refine hK.out _ _ (((keeps_one _ b1 2 _).cell hHeld gb)) (fun hHeld => ?_)
        clear hK K
        refine done_ (by kernel_rfl) ?_
        have z01 : (X.setCell ⟨b1, 1, none⟩ (.int .u8 2)).heap[b1]? = some (.cells #[.slice R k c', .int .u8 2, .string ⟨#[]⟩, .slice RA m rd] 36 (0, 0)) := by rw [heap_set X1]; rfl
        have z00 := (keeps_one X b1 1 (.int .u8 2)).heap X0 (by omega)
        have z0L := XL.far (keeps_one X b1 1 (.int .u8 2)) X1 (by decide)
        have z0r := Xr.far (keeps_one X b1 1 (.int .u8 2)) X1 (by decide)
        have z0B := XB.setCell (p := ⟨b1, 1, none⟩) (show S ≤ b1 by omega) (.int .u8 2)
        clear X0 X1 XL Xr XB
        have z11 : ((X.setCell ⟨b1, 1, none⟩ (.int .u8 2)).setCell ⟨b1, 2, none⟩ (.string xk)).heap[b1]? = some (.cells #[.slice R k c', .int .u8 2, .string xk, .slice RA m rd] 36 (0, 0)) := by rw [heap_set z01]; rfl
        have z10 := (keeps_one (X.setCell ⟨b1, 1, none⟩ (.int .u8 2)) b1 2 (.string xk)).heap z00 (by omega)
        have z1L := z0L.far (keeps_one (X.setCell ⟨b1, 1, none⟩ (.int .u8 2)) b1 2 (.string xk)) z01 (by decide)
        have z1r := z0r.far (keeps_one (X.setCell ⟨b1, 1, none⟩ (.int .u8 2)) b1 2 (.string xk)) z01 (by decide)
        have z1B := z0B.setCell (p := ⟨b1, 2, none⟩) (show S ≤ b1 by omega) (.string xk)
        clear z00 z01 z0L z0r z0B
        go_upto_region 15 with fail
        generalize ((X.setCell ⟨b1, 1, none⟩ (.int .u8 2)).setCell ⟨b1, 2, none⟩ (.string xk)) = Y at *
        replace z10 : Y.drew.heap[S]? = some (.cells #[.slice none 0 0, .int .u8 0, .string ⟨#[]⟩, .slice none 0 0] 36 (0, 0)) := z10
        replace z11 : Y.drew.heap[b1]? = some (.cells #[.slice R k c', .int .u8 2, .string xk, .slice RA m rd] 36 (0, 0)) := z11
        replace z1L : Txt Y.drew S R c' LS := z1L
        replace z1r : Row Y.drew S RA rd x.row := z1r
        replace z1B : Below S w Y.drew := z1B.drew
        generalize Y.drew = Y2 at *
        clear p0 p1 p2 p3 p0' p1' p2' p3'
        obtain ⟨u0, u1, u2, u3, u0', u1', u2', u3'⟩ := four z10
        obtain ⟨p0, p1, p2, p3, p0', p1', p2', p3'⟩ := four z11
        have E := hid (rbuilt_end (P := ⟨LS, 2, xk, x.row⟩) HS.out z10 z1L z1r LL.out HM.out.symm rfl rfl z1B)
        have G := hid (set4_heap (a := .slice R k c') (b := .int .u8 2) (c := .string xk) (d := .slice RA m rd) z10)
        clear z10 z11 z1L z1r z1B
        go_wp2
        refine bodyPost_ret (ret_cell_one rfl rfl G.out Tryd.underlying36 rfl infRP) rfl ?_
        rw [PB.out]
        exact E.out
end Go.Proofs.YtmbgfjcmdolggaaDoor
