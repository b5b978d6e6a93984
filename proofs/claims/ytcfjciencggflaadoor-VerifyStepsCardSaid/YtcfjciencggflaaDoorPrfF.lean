/- The walk of the program's Decode. -/
import Derived.Test.YtcfjciencggflaaDoorPrfE
set_option linter.unusedVariables false
set_option linter.unusedSimpArgs false
namespace Go.Proofs.YtcfjciencggflaaDoor
open Go.RowKit PrintLast

theorem infPP : (Tryd.prog.info? 52).map (·.size) = some 4 := by kernel_rfl
theorem keeps_below {S : Nat} {a w : World} {b : Nat} (h : Keeps (fun k => k = b) a w) (hS : S ≤ b) (ha : S ≤ a.heap.size) : Below S a w :=
  ⟨h.os, h.tape, h.output, h.size, fun k hk => h.block k (by omega) (by omega)⟩
/-- A key and a row that were taken, and what is left. -/
theorem restO_two (o : RO) : restO 2 o = (strB (takeO (countO 4000 o).1 (countO 4000 o).2).1,
    (takeO (countO 4000 (takeO (countO 4000 o).1 (countO 4000 o).2).2).1 (countO 4000 (takeO (countO 4000 o).1 (countO 4000 o).2).2).2).1,
    (takeO (countO 4000 (takeO (countO 4000 o).1 (countO 4000 o).2).2).1 (countO 4000 (takeO (countO 4000 o).1 (countO 4000 o).2).2).2).2) := rfl
theorem restO_one (o : RO) : restO 1 o = (⟨#[]⟩, (takeO (countO 4000 o).1 (countO 4000 o).2).1, (takeO (countO 4000 o).1 (countO 4000 o).2).2) := rfl
theorem restO_else {k : UInt8} (h1 : k ≠ 2) (h2 : k ≠ 1) (o : RO) : restO k o = (⟨#[]⟩, [], o) := by unfold restO; rw [if_neg h1, if_neg h2]

set_option maxRecDepth 100000 in
set_option maxHeartbeats 6400000 in
theorem dec_any {w : World} {A : Option Addr} {c n : Nat} {q : List UInt8} (hn : q.length = n) (hq : BSA w A c q) (hb : n ≤ 1000000) :
    Calls Tryd.prog 44 #[.slice A n c] w (Decoded w q) := by
  obtain ⟨g0, g1, g2, al⟩ := alloc3 w (.cells #[.slice none 0 0, .int .u8 0, .string ⟨#[]⟩, .slice none 0 0] 52) (.cells #[.slice A n c, .int .i64 0] 111) (.cells #[.slice none 0 0, .int .u8 0, .string ⟨#[]⟩, .slice none 0 0] 52)
  have hq0 := hq.below al
  obtain ⟨S, hS⟩ : ∃ S, S = w.heap.size := ⟨_, rfl⟩
  have hpl : 0 < q.length → ∃ g o, A = some ⟨g, o, none⟩ ∧ g < S := fun h0 => by
    obtain ⟨g, o, rfl⟩ := hq.place h0
    have := hq.at_ 0 h0
    exact ⟨g, o, rfl, by rw [hS]; exact World.block_lt_of_cell? w _ this⟩
  rw [← hS] at g0 g1 g2 al
  have HS := hid hS
  clear hq hS
  go_enter Tryd.func44, Tryd.ntmps44
  go_upto_region 3 with fail
  rw [← HS.out]
  generalize hW : ((w.alloc (.cells #[.slice none 0 0, .int .u8 0, .string ⟨#[]⟩, .slice none 0 0] 52)).alloc (.cells #[.slice A n c, .int .i64 0] 111)).alloc (.cells #[.slice none 0 0, .int .u8 0, .string ⟨#[]⟩, .slice none 0 0] 52) = W at *
  obtain ⟨b2, hb2⟩ : ∃ b, b = S + 1 + 1 := ⟨_, rfl⟩
  obtain ⟨b1, hb1⟩ : ∃ b, b = S + 1 := ⟨_, rfl⟩
  rw [← hb2] at g2 ⊢
  rw [← hb1] at g1 ⊢
  have o12 : b1 < b2 := by omega
  have o01 : S < b1 := by omega
  have sW : S ≤ W.heap.size := by have := lt_of_block g0; omega
  have st0 : RSt W b1 S (.ok q) := ⟨A, c, by rw [hn]; exact g1, hq0, hpl, by omega⟩
  have HC := hid (count_u (m := 256) st0 (by omega))
  have PB := hid (progB_res q)
  clear hW hb1 hb2 st0 hq0 hpl hn
  go_wp2_with fail
  refine HC.out.mono ?_
  rintro x w1 ⟨m, hm, hm2, rfl, st1, K1⟩
  obtain ⟨o1, ho1⟩ : ∃ o, o = (countO 256 (.ok q)).2 := ⟨_, rfl⟩
  rw [← ho1] at st1
  have PQ : Hid (progB q = match lastO (restO (kindO (sidesO m o1).2).1 (kindO (sidesO m o1).2).2).2.2 with
    | .error e => (e, ⟨[], 0, ⟨#[]⟩, []⟩)
    | .ok _ => (0, ⟨(sidesO m o1).1, (kindO (sidesO m o1).2).1, (restO (kindO (sidesO m o1).2).1 (kindO (sidesO m o1).2).2).1, (restO (kindO (sidesO m o1).2).1 (kindO (sidesO m o1).2).2).2.1⟩)) := hid (by
      rw [hm.out, ho1]; rfl)
  have al1 : Below S W w1 := keeps_below K1 (by omega) sW
  have G0 := K1.heap g0 (by omega)
  have G2 := K1.heap g2 (by omega)
  have B1 := al.trans al1
  have L0 : Txt w1 S none 0 (sidesO 0 o1).1 := Txt.nil _ _
  have st1' : RSt w1 b1 S (sidesO 0 o1).2 := st1
  clear hm ho1 HC K1 al1 al g0 g1 g2 st1 sW
  go_wp2
  go_loopw [11] (fun i wr => ∃ (k c' : Nat) (R : Option Addr), k ≤ m ∧ i = .int .i64 k ∧ Txt wr S R c' (sidesO k o1).1 ∧ wr.heap[S]? = some (.cells #[.slice none 0 0, .int .u8 0, .string ⟨#[]⟩, .slice none 0 0] 52 (0, 0)) ∧ wr.heap[b2]? = some (.cells #[.slice R k c', .int .u8 0, .string ⟨#[]⟩, .slice none 0 0] 52 (0, 0)) ∧ RSt wr b1 S (sidesO k o1).2 ∧ Below S w wr) (fun i _ => m - (intOf i).toNat)
  case atStart => exact ⟨0, 0, none, Nat.zero_le _, rfl, L0, G0, G2, st1', B1⟩
  case round =>
    clear L0 G0 G2 st1' B1
    obtain ⟨k, c', R, hk, rfl, hL, g0, g2, st, hB⟩ := hrel
    have sB : S ≤ wr.heap.size := by have := lt_of_block g0; omega
    by_cases hlt : k < m
    · have t1 : decide ((k : Int) < (m : Int)) = true := by simp; omega
      have HT : Hid (Calls Tryd.prog 67 #[.pointer (some ⟨b1, 0, none⟩), .int .i64 32] wr.drew (TookU wr.drew b1 S 32 (sidesO k o1).2)) := hid (take_u (n := 32) (show RSt wr.drew b1 S (sidesO k o1).2 from st.move ((Below.refl S wr).drew) rfl) (by omega))
      obtain ⟨LS, hLS⟩ : ∃ LS, LS = (sidesO k o1).1 := ⟨_, rfl⟩
      rw [← hLS] at hL
      have LL : Hid (LS.length = k) := hid (by rw [hLS, sidesO_length])
      have NX : Hid (∀ s, s = (takeO 32 (sidesO k o1).2).1 → LS ++ [strB s] = (sidesO (k + 1) o1).1) := hid (fun s hs => by rw [hs, hLS]; rfl)
      have v0 := cell_at g2 (i := 0) (v := .slice R k c') rfl
      obtain ⟨rv, re, hr, -⟩ := st.cells
      have X2 : wr.drew.heap[b2]? = some (.cells #[.slice R k c', .int .u8 0, .string ⟨#[]⟩, .slice none 0 0] 52 (0, 0)) := g2
      have X1 : wr.drew.heap[b1]? = some (.cells #[rv, .int .i64 (re : Int)] 111 (0, 0)) := hr
      have X0 : wr.drew.heap[S]? = some (.cells #[.slice none 0 0, .int .u8 0, .string ⟨#[]⟩, .slice none 0 0] 52 (0, 0)) := g0
      have XL : Txt wr.drew S R c' LS := hL
      have XB : Below S w wr.drew := hB.drew
      have xs : S ≤ wr.drew.heap.size := sB
      have GG := hid (And.intro X0 (And.intro X1 (And.intro X2 (And.intro XB XL))))
      clear hLS g0 g2 hr hL hB X0 X1 X2 XB XL sB st
      go_wp2
      refine start_ (n := 9) (S := fun w' => w'.cell? ⟨b2, 0, none⟩ = some (.slice R k c')) (ds := [8]) #[false, false, false, false, false, false, false, false, false] (by kernel_rfl) rfl rfl (v0) (fun hHeld => ?_)
      refine pure_ (i := 0) (N := some 13) (v := ?_) (a' := ?_) #[true, false, false, false, false, false, false, false, false] rfl rfl (by kernel_rfl) (fun _ _ _ h => h) (Or.inl ⟨by rfl, ?_⟩) ?_ ?_
      rotate_left
      · intro w'
        go_simp
        with_reducible rfl
      rotate_left
      · simp only [Act.put, List.setIfInBounds_toArray, List.set_cons_zero, List.set_cons_succ, i64_w, i32_w]
        rfl
      refine pure_ (i := 2) (N := some 15) (v := ?_) (a' := ?_) #[true, false, true, false, false, false, false, false, false] rfl rfl (by kernel_rfl) (fun _ _ _ h => h) (Or.inl ⟨by rfl, ?_⟩) ?_ ?_
      rotate_left
      · intro w'
        go_simp
        with_reducible rfl
      rotate_left
      · simp only [Act.put, List.setIfInBounds_toArray, List.set_cons_zero, List.set_cons_succ, i64_w, i32_w]
        rfl
      refine take_ (i := 1) (N := some 14) (v := ?_) (a' := ?_) #[true, true, true, false, false, false, false, false, false] rfl rfl (by kernel_rfl) (fun _ _ _ h => h) (Or.inl ⟨by rfl, ?_⟩) hHeld ?_ ?_
      rotate_left
      · intro w' s0
        go_simp
        with_reducible rfl
      rotate_left
      · simp only [Act.put, List.setIfInBounds_toArray, List.set_cons_zero, List.set_cons_succ, i64_w, i32_w]
        rfl
      refine one_ (i := 3) (N := some 16) #[true, true, true, true, false, false, false, false, false] rfl rfl (by kernel_rfl) (by decide) (fun K hK => ?_)
      refine goes_ Tryd.func67 (by kernel_rfl) rfl #[.pointer (some ⟨b1, 0, none⟩), .int .i64 32] (by rfl) rfl rfl (by simp only [List.map_toArray, List.map_cons, List.map_nil]; rfl) ?_
      with_reducible refine (HT.out).mono ?_
      rintro e' w1 ⟨A1, c1, s, hs, rfl, r1, st1, K1⟩
      refine ⟨_, rfl, ?_⟩
      have y2 := K1.heap GG.out.2.2.1 (by omega)
      have y0 := K1.heap GG.out.1 (by omega)
      obtain ⟨rv1, re1, y1, -⟩ := st1.cells
      have yL := GG.out.2.2.2.2.far K1 GG.out.2.1 (by decide)
      have yB : Below S w w1 := GG.out.2.2.2.1.trans (keeps_below K1 (by omega) xs)
      have ys : S ≤ w1.heap.size := by have := lt_of_block y0; omega
      refine hK.out _ _ ((cell_at y2 rfl)) (fun hHeld => ?_)
      clear hK K
      refine norm_ (a' := ?_) ?_ ?_
      rotate_left
      · show Act.put _ (some 16) _ = _
        simp only [Act.put, List.setIfInBounds_toArray, List.set_cons_zero, List.set_cons_succ, i64_w, i32_w]
        rfl
      refine one_ (i := 4) (N := some 17) #[true, true, true, true, true, false, false, false, false] rfl rfl (by kernel_rfl) (by decide) (fun K hK => ?_)
      have cv := conv_any rfl r1.bsa
      refine value_ (w1 := ?_) (v := ?_) (by rfl) rfl ?_ ?_
      rotate_left 2
      · go_simp
        constructor
        · rfl
        · rfl
      refine hK.out _ _ (hHeld) (fun hHeld => ?_)
      clear hK K
      refine norm_ (a' := ?_) ?_ ?_
      rotate_left
      · show Act.put _ (some 17) _ = _
        simp only [Act.put, List.setIfInBounds_toArray, List.set_cons_zero, List.set_cons_succ, i64_w, i32_w]
        rfl
      refine one_ (i := 5) (N := some 18) #[true, true, true, true, true, true, false, false, false] rfl rfl (by kernel_rfl) (by decide) (fun K hK => ?_)
      refine value_ (w1 := ?_) (v := ?_) (by rfl) rfl ?_ ?_
      rotate_left 2
      · go_simp
        constructor
        · rfl
        · rfl
      have al0 := below_alloc (Below.refl _ w1) (.cells #[.string (strB s)] 9)
      refine hK.out _ _ ((below_cell al0 hHeld)) (fun hHeld => ?_)
      clear hK K
      refine norm_ (a' := ?_) ?_ ?_
      rotate_left
      · show Act.put _ (some 18) _ = _
        simp only [Act.put, List.setIfInBounds_toArray, List.set_cons_zero, List.set_cons_succ, i64_w, i32_w]
        rfl
      refine one_ (i := 6) (N := some 19) #[true, true, true, true, true, true, true, false, false] rfl rfl (by kernel_rfl) (by decide) (fun K hK => ?_)
      refine step_appT rfl (.tmp 14) (.tmp 18) rfl S (Nat.le_trans ys al0.size) R c' k LS rfl LL.out (yL.below al0) _ (strB s) rfl (cell_at (heap_alloc_new _ _) rfl) (by omega) ?_
      intro R2 c2 w2 m1 m2 m3
      have e2 := (yL.below al0).beside LL.out m2 (below_heap al0 y2) (by decide)
      have e1 := (yL.below al0).beside LL.out m2 (below_heap al0 y1) (by decide)
      have e0 := (yL.below al0).beside LL.out m2 (below_heap al0 y0) (by decide)
      have eX := (yL.below al0).grew LL.out m2 ((Below.refl S w1).alloc ys _) (Nat.le_trans ys al0.size)
      have d0 := cell_at e2 (i := 0) (v := .slice R k c') rfl
      have d1 := free_at e2 0
      refine hK.out _ _ (d0) (fun hHeld => ?_)
      clear hK K
      refine norm_ (a' := ?_) ?_ ?_
      rotate_left
      · show Act.put _ (some 19) _ = _
        simp only [Act.put, List.setIfInBounds_toArray, List.set_cons_zero, List.set_cons_succ, i64_w, i32_w]
        rfl
      refine pure_ (i := 7) (N := some 20) (v := ?_) (a' := ?_) #[true, true, true, true, true, true, true, true, false] rfl rfl (by kernel_rfl) (fun _ _ _ h => h) (Or.inl ⟨by rfl, ?_⟩) ?_ ?_
      rotate_left
      · intro w'
        go_simp
        with_reducible rfl
      rotate_left
      · simp only [Act.put, List.setIfInBounds_toArray, List.set_cons_zero, List.set_cons_succ, i64_w, i32_w]
        rfl
      refine last_ (i := 8) (N := none) #[true, true, true, true, true, true, true, true, true] rfl rfl (by kernel_rfl) (by decide) (fun K hK => ?_)
      refine skip_ (w1 := ?_) (by rfl) rfl ?_ ?_
      rotate_left
      · go_simp
        rfl
      refine hK.out _ _ ?_
      clear hK K
      refine done_ (by kernel_rfl) ?_
      have e2' : (w2.setCell ⟨b2, 0, none⟩ (.slice R2 (k + 1) c2)).heap[b2]? = some (.cells #[.slice R2 (k + 1) c2, .int .u8 0, .string ⟨#[]⟩, .slice none 0 0] 52 (0, 0)) := by rw [heap_set e2]; rfl
      have e1' := (keeps_one w2 b2 0 (.slice R2 (k + 1) c2)).heap e1 (by omega)
      have e0' := (keeps_one w2 b2 0 (.slice R2 (k + 1) c2)).heap e0 (by omega)
      have eL' := m1.far (keeps_one w2 b2 0 (.slice R2 (k + 1) c2)) e2 (by decide)
      have eX' := eX.setCell (p := ⟨b2, 0, none⟩) (show S ≤ b2 by omega) (.slice R2 (k + 1) c2)
      have st2 := st1.move eX' (e1'.trans y1.symm)
      have eB' := yB.trans eX'
      rw [NX.out s hs.out] at eL'
      have st2' : RSt (w2.setCell ⟨b2, 0, none⟩ (.slice R2 (k + 1) c2)) b1 S (sidesO (k + 1) o1).2 := st2
      clear m1 m2 m3 e2 e1 e0 e1' eX eX' d0 d1 al0 GG cv NX v0 st1 st2 hs y0 y1 y2 yL yB ys xs K1 HT r1
      generalize w2.setCell ⟨b2, 0, none⟩ (.slice R2 (k + 1) c2) = w3 at *
      go_wp2
      go_roundw
      case rel => exact ⟨k + 1, c2, R2, hlt, by go_num, eL', e0', e2', st2', eB'⟩
      case measure => simp [intOf]; omega
    · obtain rfl : k = m := by omega
      have t1 : decide ((k : Int) < (k : Int)) = false := by simp
      obtain ⟨LS, hLS⟩ : ∃ LS, LS = (sidesO k o1).1 := ⟨_, rfl⟩
      obtain ⟨o2, ho2⟩ : ∃ o2, o2 = (sidesO k o1).2 := ⟨_, rfl⟩
      have LL : Hid (LS.length = k) := hid (by rw [hLS, sidesO_length])
      have P0 := PQ.out
      rw [← hLS, ← ho2] at P0
      rw [← hLS] at hL
      rw [← ho2] at st
      have PQ2 := hid P0
      have HK := hid (kind_u st)
      clear hLS ho2 P0 PQ hlt
      go_wp2_with fail
      refine HK.out.mono ?_
      rintro x w1 ⟨kv, hkv, hk2, rfl, st1, K1⟩
      obtain ⟨o3, ho3⟩ : ∃ o3, o3 = (kindO o2).2 := ⟨_, rfl⟩
      have P0 := PQ2.out
      rw [← hkv.out, ← ho3] at P0
      rw [← ho3] at st1
      have PQ3 := hid P0
      obtain ⟨rv0, re0, hr0, -⟩ := st.cells
      obtain ⟨rv1, re1, hr1, -⟩ := st1.cells
      have y2 := K1.heap g2 (by omega)
      have y0 := K1.heap g0 (by omega)
      have yL := hL.far K1 hr0 (by decide)
      have yB : Below S w w1 := hB.trans (keeps_below K1 (by omega) sB)
      have z2 : (w1.setCell ⟨b2, 1, none⟩ (.int .u8 (kv.toNat : Int))).heap[b2]? = some (.cells #[.slice R k c', .int .u8 (kv.toNat : Int), .string ⟨#[]⟩, .slice none 0 0] 52 (0, 0)) := by rw [heap_set y2]; rfl
      have z0 := (keeps_one w1 b2 1 (.int .u8 (kv.toNat : Int))).heap y0 (by omega)
      have z1 := (keeps_one w1 b2 1 (.int .u8 (kv.toNat : Int))).heap hr1 (by omega)
      have zL := yL.far (keeps_one w1 b2 1 (.int .u8 (kv.toNat : Int))) y2 (by decide)
      have zX := (Below.refl S w1).setCell (p := ⟨b2, 1, none⟩) (show S ≤ b2 by omega) (.int .u8 (kv.toNat : Int))
      have zB := yB.trans zX
      have zst := st1.move zX (z1.trans hr1.symm)
      have v1 := cell_at y2 (i := 1) (v := .int .u8 0) rfl
      have v1' := free_at y2 1
      clear g0 g2 hL hB sB st HK PQ2 P0 hkv ho3 st1 K1 hr0 hr1 y0 y2 yL yB z1 zX
      go_upto_block 2 with fail
      generalize w1.setCell ⟨b2, 1, none⟩ (.int .u8 (kv.toNat : Int)) = w3 at *
      clear v1 v1'
      go_cut [] (fun wx => ∃ (key : ByteArray) (rs : List UInt8) (A' : Option Addr) (cr : Nat) (o4 : RO), Hid (restO kv o3 = (key, rs, o4)) ∧ Txt wx S R c' LS ∧ Row wx S A' cr rs ∧ wx.heap[S]? = some (.cells #[.slice none 0 0, .int .u8 0, .string ⟨#[]⟩, .slice none 0 0] 52 (0, 0)) ∧ wx.heap[b2]? = some (.cells #[.slice R k c', .int .u8 (kv.toNat : Int), .string key, .slice A' rs.length cr] 52 (0, 0)) ∧ RSt wx b1 S o4 ∧ Below S w wx)
      case first =>
        by_cases hk2' : kv = 2
        · have t6 : ((kv.toNat : Int) == 2) = true := by rw [hk2']; rfl
          have HKV := hid hk2'
          obtain ⟨rvz, rez, z1, -⟩ := zst.cells
          have HC : Hid (Calls Tryd.prog 66 #[.pointer (some ⟨b1, 0, none⟩), .int .i64 4000] w3 (CountedU w3 b1 S 4000 o3)) := hid (count_u (m := 4000) zst (by omega))
          clear hk2'
          go_wp2_with fail
          refine HC.out.mono ?_
          rintro x w4 ⟨n4, hn4, hn4', rfl, fst, K4⟩
          have f2 := K4.heap z2 (by omega)
          have f0 := K4.heap z0 (by omega)
          have fL := zL.far K4 z1 (by decide)
          have fX : Below S _ _ := keeps_below K4 (by omega) (by have := lt_of_block z0; omega)
          have fB := zB.trans fX
          obtain ⟨rvf, ref, f1, -⟩ := fst.cells
          have HT := hid (take_u (n := n4) fst (by omega))
          go_wp2_with fail
          refine HT.out.mono ?_
          rintro x w5 ⟨A5, c5, ks, hks, rfl, r5, gst, K5⟩
          have g2 := K5.heap f2 (by omega)
          have g0 := K5.heap f0 (by omega)
          have gL := fL.far K5 f1 (by decide)
          have gX : Below S _ _ := keeps_below K5 (by omega) (by have := lt_of_block f0; omega)
          have gB := fB.trans gX
          obtain ⟨rvg, reg, g1, -⟩ := gst.cells
          have cv := conv_any rfl r5.bsa
          have h2 : (w5.setCell ⟨b2, 2, none⟩ (.string (strB ks))).heap[b2]? = some (.cells #[.slice R k c', .int .u8 (kv.toNat : Int), .string (strB ks), .slice none 0 0] 52 (0, 0)) := by rw [heap_set g2]; rfl
          have h0 := (keeps_one w5 b2 2 (.string (strB ks))).heap g0 (by omega)
          have h1 := (keeps_one w5 b2 2 (.string (strB ks))).heap g1 (by omega)
          have hL := gL.far (keeps_one w5 b2 2 (.string (strB ks))) g2 (by decide)
          have hX := (Below.refl S w5).setCell (p := ⟨b2, 2, none⟩) (show S ≤ b2 by omega) (.string (strB ks))
          have hB := gB.trans hX
          have hst := gst.move hX (h1.trans g1.symm)
          have c2 := cell_at g2 (i := 2) (v := .string ⟨#[]⟩) rfl
          have c2' := free_at g2 2
          clear z0 z1 z2 zL zB zst f0 f1 f2 fL fX fB fst g0 g1 g2 gL gX gB gst h1 hX K4 K5 HC HT r5
          go_upto_region 12 with fail
          generalize w5.setCell ⟨b2, 2, none⟩ (.string (strB ks)) = w6 at *
          clear cv c2 c2'
          obtain ⟨rvh, reh, h1, -⟩ := hst.cells
          have HCh : Hid (Calls Tryd.prog 66 #[.pointer (some ⟨b1, 0, none⟩), .int .i64 4000] w6 (CountedU w6 b1 S 4000 _)) := hid (count_u (m := 4000) hst (by omega))
          go_wp2_with fail
          refine HCh.out.mono ?_
          rintro x w7 ⟨n7, hn7, hn7', rfl, jst, K7⟩
          have j2 := K7.heap h2 (by omega)
          have j0 := K7.heap h0 (by omega)
          have jL := hL.far K7 h1 (by decide)
          have jX : Below S _ _ := keeps_below K7 (by omega) (by have := lt_of_block h0; omega)
          have jB := hB.trans jX
          obtain ⟨rvj, rej, j1, -⟩ := jst.cells
          have HTj := hid (take_u (n := n7) jst (by omega))
          go_wp2_with fail
          refine HTj.out.mono ?_
          rintro x w8 ⟨A8, c8, rs, hrs, rfl, r8, kst, K8⟩
          have k2 := K8.heap j2 (by omega)
          have k0 := K8.heap j0 (by omega)
          have kL := jL.far K8 j1 (by decide)
          have kX : Below S _ _ := keeps_below K8 (by omega) (by have := lt_of_block j0; omega)
          have kB := jB.trans kX
          obtain ⟨rvk, rek, k1, -⟩ := kst.cells
          have r8' : Row w8 S A8 c8 rs := r8.lower (by have := lt_of_block j0; omega)
          have k2' : (w8.setCell ⟨b2, 3, none⟩ (.slice A8 rs.length c8)).heap[b2]? = some (.cells #[.slice R k c', .int .u8 (kv.toNat : Int), .string (strB ks), .slice A8 rs.length c8] 52 (0, 0)) := by rw [heap_set k2]; rfl
          have k0' := (keeps_one w8 b2 3 (.slice A8 rs.length c8)).heap k0 (by omega)
          have k1' := (keeps_one w8 b2 3 (.slice A8 rs.length c8)).heap k1 (by omega)
          have kL' := kL.far (keeps_one w8 b2 3 (.slice A8 rs.length c8)) k2 (by decide)
          have kr' := r8'.far (keeps_one w8 b2 3 (.slice A8 rs.length c8)) k2 (by decide)
          have kX' := (Below.refl S w8).setCell (p := ⟨b2, 3, none⟩) (show S ≤ b2 by omega) (.slice A8 rs.length c8)
          have kB' := kB.trans kX'
          have kst' := kst.move kX' (k1'.trans k1.symm)
          have c3 := cell_at k2 (i := 3) (v := .slice none 0 0) rfl
          have c3' := free_at k2 3
          have RO := hid (show restO kv o3 = ((strB ks), rs, _) from by rw [HKV.out, restO_two, ← hn4.out, ← hks.out, ← hn7.out, ← hrs.out])
          clear j0 j1 j2 jL jX jB jst k0 k1 k2 kL kX kB kst k1' kX' r8 r8' K7 K8 HTj HCh h0 h1 h2 hL hB hst
          go_wp2
          go_meet
          exact ⟨(strB ks), rs, A8, c8, _, RO, kL', kr', k0', k2', kst', kB'⟩
        · have t6 : ((kv.toNat : Int) == 2) = false := by
            rw [beq_eq_false_iff_ne]
            intro e
            have h3 : kv.toNat = 2 := by omega
            exact hk2' (UInt8.toNat_inj.1 (by simpa using h3))
          by_cases hk1' : kv = 1
          · have t7 : ((kv.toNat : Int) == 1) = true := by rw [hk1']; rfl
            have HKV := hid hk1'
            clear hk1' hk2'
            obtain ⟨rvz, rez, z1, -⟩ := zst.cells
            have HCz : Hid (Calls Tryd.prog 66 #[.pointer (some ⟨b1, 0, none⟩), .int .i64 4000] w3 (CountedU w3 b1 S 4000 _)) := hid (count_u (m := 4000) zst (by omega))
            go_wp2_with fail
            refine HCz.out.mono ?_
            rintro x w7 ⟨n7, hn7, hn7', rfl, jst, K7⟩
            have j2 := K7.heap z2 (by omega)
            have j0 := K7.heap z0 (by omega)
            have jL := zL.far K7 z1 (by decide)
            have jX : Below S _ _ := keeps_below K7 (by omega) (by have := lt_of_block z0; omega)
            have jB := zB.trans jX
            obtain ⟨rvj, rej, j1, -⟩ := jst.cells
            have HTj := hid (take_u (n := n7) jst (by omega))
            go_wp2_with fail
            refine HTj.out.mono ?_
            rintro x w8 ⟨A8, c8, rs, hrs, rfl, r8, kst, K8⟩
            have k2 := K8.heap j2 (by omega)
            have k0 := K8.heap j0 (by omega)
            have kL := jL.far K8 j1 (by decide)
            have kX : Below S _ _ := keeps_below K8 (by omega) (by have := lt_of_block j0; omega)
            have kB := jB.trans kX
            obtain ⟨rvk, rek, k1, -⟩ := kst.cells
            have r8' : Row w8 S A8 c8 rs := r8.lower (by have := lt_of_block j0; omega)
            have k2' : (w8.setCell ⟨b2, 3, none⟩ (.slice A8 rs.length c8)).heap[b2]? = some (.cells #[.slice R k c', .int .u8 (kv.toNat : Int), .string ⟨#[]⟩, .slice A8 rs.length c8] 52 (0, 0)) := by rw [heap_set k2]; rfl
            have k0' := (keeps_one w8 b2 3 (.slice A8 rs.length c8)).heap k0 (by omega)
            have k1' := (keeps_one w8 b2 3 (.slice A8 rs.length c8)).heap k1 (by omega)
            have kL' := kL.far (keeps_one w8 b2 3 (.slice A8 rs.length c8)) k2 (by decide)
            have kr' := r8'.far (keeps_one w8 b2 3 (.slice A8 rs.length c8)) k2 (by decide)
            have kX' := (Below.refl S w8).setCell (p := ⟨b2, 3, none⟩) (show S ≤ b2 by omega) (.slice A8 rs.length c8)
            have kB' := kB.trans kX'
            have kst' := kst.move kX' (k1'.trans k1.symm)
            have c3 := cell_at k2 (i := 3) (v := .slice none 0 0) rfl
            have c3' := free_at k2 3
            have RO := hid (show restO kv o3 = (⟨#[]⟩, rs, _) from by rw [HKV.out, restO_one, ← hn7.out, ← hrs.out])
            clear j0 j1 j2 jL jX jB jst k0 k1 k2 kL kX kB kst k1' kX' r8 r8' K7 K8 HTj HCz z0 z1 z2 zL zB zst
            go_wp2
            go_meet
            exact ⟨⟨#[]⟩, rs, A8, c8, _, RO, kL', kr', k0', k2', kst', kB'⟩
          · have t7 : ((kv.toNat : Int) == 1) = false := by
              rw [beq_eq_false_iff_ne]
              intro e
              have h3 : kv.toNat = 1 := by omega
              exact hk1' (UInt8.toNat_inj.1 (by simpa using h3))
            have RO := hid (restO_else hk2' hk1' o3)
            have rN := Row.nil w3 S
            clear hk1' hk2'
            go_wp2
            go_meet
            exact ⟨⟨#[]⟩, [], none, 0, o3, RO, zL, rN, z0, z2, zst, zB⟩
      case rest =>
        obtain ⟨key, rs, A', cr, o4, RO, hL, hr, h0, h2, hst, hB⟩ := hcut
        have P0 := PQ3.out
        rw [RO.out] at P0
        have PQ4 := hid P0
        clear z0 z2 zL zB zst P0 PQ3 RO
        obtain ⟨s0, s1, s2, s3, s0', s1', s2', s3'⟩ := four h0
        have FE : Hid (∀ (W' : World) (e : Nat), Below S w W' → progB q = (e, ⟨[], 0, ⟨#[]⟩, []⟩) → Decoded w q (.returned (.tuple #[.agg #[.slice none 0 0, .int .u8 0, .string ⟨#[]⟩, .slice none 0 0], .int .i64 (e : Int)])) (set4 W' S (.slice none 0 0) (.int .u8 0) (.string ⟨#[]⟩) (.slice none 0 0))) := hid (by
          intro W' e hB' he
          rw [PB.out] at he
          unfold Decoded
          rw [he]
          exact ⟨none, 0, none, 0, rfl, Txt.nil _ _, Row.nil _ _, by rw [← HS.out]; exact set4_below hB' (Nat.le_refl _) _ _ _ _⟩)
        cases o4 with
        | error e =>
          obtain ⟨he, v, hrd⟩ := hst
          have q1 := cell_at hrd (i := 1) (v := .int .i64 (e : Int)) rfl
          have t8 : ((e : Int) == 0) = false := by rw [beq_eq_false_iff_ne]; omega
          have t9 : ((e : Int) != 0) = true := by rw [bne_iff_ne]; omega
          have E := hid (FE.out wc.drew e hB.drew PQ4.out)
          have G := hid (set4_heap (w := wc.drew) (a := .slice none 0 0) (b := .int .u8 0) (c := .string ⟨#[]⟩) (d := .slice none 0 0) h0)
          clear hL hr h0 h2 hB hrd
          go_wp2
          refine start_ (n := 7) (S := fun w' => w'.cell? ⟨b1, 1, none⟩ = some (.int .i64 (e : Int))) (ds := []) #[false, false, false, false, false, false, false] (by kernel_rfl) rfl rfl (q1) (fun hHeld => ?_)
          refine pure_ (i := 0) (N := some 63) (v := ?_) (a' := ?_) #[true, false, false, false, false, false, false] rfl rfl (by kernel_rfl) (fun _ _ _ h => h) (Or.inl ⟨by rfl, ?_⟩) ?_ ?_
          rotate_left
          · intro w'
            go_simp
            with_reducible rfl
          rotate_left
          · simp only [Act.put, List.setIfInBounds_toArray, List.set_cons_zero, List.set_cons_succ, i64_w, i32_w]
            rfl
          refine pure_ (i := 1) (N := some 64) (v := ?_) (a' := ?_) #[true, true, false, false, false, false, false] rfl rfl (by kernel_rfl) (fun _ _ _ h => h) (Or.inl ⟨by rfl, ?_⟩) ?_ ?_
          rotate_left
          · intro w'
            go_simp
            with_reducible rfl
          rotate_left
          · simp only [Act.put, List.setIfInBounds_toArray, List.set_cons_zero, List.set_cons_succ, i64_w, i32_w]
            rfl
          refine pure_ (i := 2) (N := some 65) (v := ?_) (a' := ?_) #[true, true, true, false, false, false, false] rfl rfl (by kernel_rfl) (fun _ _ _ h => h) (Or.inl ⟨by rfl, ?_⟩) ?_ ?_
          rotate_left
          · intro w'
            go_simp
            with_reducible rfl
          rotate_left
          · simp only [Act.put, List.setIfInBounds_toArray, List.set_cons_zero, List.set_cons_succ, i64_w, i32_w]
            rfl
          refine pure_ (i := 3) (N := some 66) (v := ?_) (a' := ?_) #[true, true, true, true, false, false, false] rfl rfl (by kernel_rfl) (fun _ _ _ h => h) (Or.inl ⟨by rfl, ?_⟩) ?_ ?_
          rotate_left
          · intro w'
            go_simp
            with_reducible rfl
          rotate_left
          · simp only [Act.put, List.setIfInBounds_toArray, List.set_cons_zero, List.set_cons_succ, i64_w, i32_w]
            rfl
          refine take_ (i := 4) (N := some 67) (v := ?_) (a' := ?_) #[true, true, true, true, true, false, false] rfl rfl (by kernel_rfl) (fun _ _ _ h => h) (Or.inl ⟨by rfl, ?_⟩) hHeld ?_ ?_
          rotate_left
          · intro w' s0
            go_simp
            with_reducible rfl
          rotate_left
          · simp only [Act.put, List.setIfInBounds_toArray, List.set_cons_zero, List.set_cons_succ, i64_w, i32_w]
            rfl
          refine one_ (i := 5) (N := none) #[true, true, true, true, true, true, false] rfl rfl (by kernel_rfl) (by decide) (fun K hK => ?_)
          refine skip_ (w1 := ?_) (by rfl) rfl ?_ ?_
          rotate_left
          · go_simp
            rfl
          refine hK.out _ _ (((set4_keeps _ S _ _ _ _).cell hHeld (show ¬ b1 = S by omega))) (fun hHeld => ?_)
          clear hK K
          refine pure_ (i := 6) (N := some 3) (v := ?_) (a' := ?_) #[true, true, true, true, true, true, true] rfl rfl (by kernel_rfl) (fun _ _ _ h => h) (Or.inl ⟨by rfl, ?_⟩) ?_ ?_
          rotate_left
          · intro w'
            go_simp
            with_reducible rfl
          rotate_left
          · simp only [Act.put, List.setIfInBounds_toArray, List.set_cons_zero, List.set_cons_succ, i64_w, i32_w]
            rfl
          refine done_ (by kernel_rfl) ?_
          go_wp2
          refine bodyPost_ret (ret_cell_tmp rfl rfl G.out Tryd.underlying52 rfl infPP) rfl ?_
          exact E.out
        | ok l =>
          obtain ⟨Aq, cq, hrd, hqq, _, hN1⟩ := hst
          have q0 := cell_at hrd (i := 0) (v := .slice Aq l.length cq) rfl
          have q1 := cell_at hrd (i := 1) (v := .int .i64 0) rfl
          have ql := hqq.le
          cases l with
          | nil =>
            obtain ⟨v0, v1, v2, v3, v0', v1', v2', v3'⟩ := four h2
            have E : Hid (Decoded w q (.returned (.tuple #[.agg #[.slice R k c', .int .u8 (kv.toNat : Int), .string key, .slice A' rs.length cr], .int .i64 0])) (set4 wc S (.slice R k c') (.int .u8 (kv.toNat : Int)) (.string key) (.slice A' rs.length cr))) := hid (by
              have he := PQ4.out
              rw [PB.out] at he
              unfold Decoded
              rw [he]
              refine ⟨R, c', A', cr, ?_, ?_, ?_, ?_⟩
              · show _ = Ending.returned (.tuple #[.agg (prfV R c' A' cr ⟨LS, kv, key, rs⟩), .int .i64 ((0 : Nat) : Int)])
                unfold prfV
                rw [show (Prf.mk LS kv key rs).side.length = k from LL.out]
                rfl
              · rw [← HS.out]; exact own_far hL (set4_keeps wc S (.slice R k c') (.int .u8 (kv.toNat : Int)) (.string key) (.slice A' rs.length cr)) h0 (by decide)
              · rw [← HS.out]; exact own_far hr (set4_keeps wc S (.slice R k c') (.int .u8 (kv.toNat : Int)) (.string key) (.slice A' rs.length cr)) h0 (by decide)
              · rw [← HS.out]; exact set4_below hB (Nat.le_refl _) _ _ _ _)
            have G := hid (set4_heap (a := .slice R k c') (b := .int .u8 (kv.toNat : Int)) (c := .string key) (d := .slice A' rs.length cr) h0)
            clear hL hr h0 h2 hB hrd hqq
            go_wp2
            refine bodyPost_ret (ret_cell_tmp rfl rfl G.out Tryd.underlying52 rfl infPP) rfl ?_
            exact E.out
          | cons a l =>
            have f1 := free_at hrd 1
            have t8 : decide ((0 : Int) < ((a :: l).length : Int)) = true := by first | (simp; done) | (simp; omega)
            have t8' : decide (0 < (a :: l).length) = true := by simp
            obtain ⟨N, hNN⟩ : ∃ N, N = (a :: l).length := ⟨_, rfl⟩
            rw [← hNN] at q0 t8 t8' ql
            have hX := (Below.refl S wc).setCell (p := ⟨b1, 1, none⟩) (show S ≤ b1 by omega) (.int .i64 2)
            have hB' := hB.trans hX
            have h0' := (keeps_one wc b1 1 (.int .i64 2)).heap h0 (by omega)
            have hrd' := heap_set (i := 1) (v := .int .i64 2) hrd
            have E := hid (FE.out (wc.setCell ⟨b1, 1, none⟩ (.int .i64 2)).drew 2 hB'.drew PQ4.out)
            clear hL hr h0 h2 hB hrd hqq s0 s1 s2 s3 s0' s1' s2' s3' hX hNN
            go_upto_region 15 with fail
            generalize wc.setCell ⟨b1, 1, none⟩ (.int .i64 2) = w9 at *
            clear q0 q1 f1
            have q1 := cell_at hrd' (i := 1) (v := .int .i64 2) rfl
            obtain ⟨s0, s1, s2, s3, s0', s1', s2', s3'⟩ := four h0'
            have G := hid (set4_heap (w := w9.drew) (a := .slice none 0 0) (b := .int .u8 0) (c := .string ⟨#[]⟩) (d := .slice none 0 0) h0')
            clear h0' hrd' hB'
            go_wp2
            refine start_ (n := 7) (S := fun w' => w'.cell? ⟨b1, 1, none⟩ = some (.int .i64 2)) (ds := []) #[false, false, false, false, false, false, false] (by kernel_rfl) rfl rfl (q1) (fun hHeld => ?_)
            refine pure_ (i := 0) (N := some 63) (v := ?_) (a' := ?_) #[true, false, false, false, false, false, false] rfl rfl (by kernel_rfl) (fun _ _ _ h => h) (Or.inl ⟨by rfl, ?_⟩) ?_ ?_
            rotate_left
            · intro w'
              go_simp
              with_reducible rfl
            rotate_left
            · simp only [Act.put, List.setIfInBounds_toArray, List.set_cons_zero, List.set_cons_succ, i64_w, i32_w]
              rfl
            refine pure_ (i := 1) (N := some 64) (v := ?_) (a' := ?_) #[true, true, false, false, false, false, false] rfl rfl (by kernel_rfl) (fun _ _ _ h => h) (Or.inl ⟨by rfl, ?_⟩) ?_ ?_
            rotate_left
            · intro w'
              go_simp
              with_reducible rfl
            rotate_left
            · simp only [Act.put, List.setIfInBounds_toArray, List.set_cons_zero, List.set_cons_succ, i64_w, i32_w]
              rfl
            refine pure_ (i := 2) (N := some 65) (v := ?_) (a' := ?_) #[true, true, true, false, false, false, false] rfl rfl (by kernel_rfl) (fun _ _ _ h => h) (Or.inl ⟨by rfl, ?_⟩) ?_ ?_
            rotate_left
            · intro w'
              go_simp
              with_reducible rfl
            rotate_left
            · simp only [Act.put, List.setIfInBounds_toArray, List.set_cons_zero, List.set_cons_succ, i64_w, i32_w]
              rfl
            refine pure_ (i := 3) (N := some 66) (v := ?_) (a' := ?_) #[true, true, true, true, false, false, false] rfl rfl (by kernel_rfl) (fun _ _ _ h => h) (Or.inl ⟨by rfl, ?_⟩) ?_ ?_
            rotate_left
            · intro w'
              go_simp
              with_reducible rfl
            rotate_left
            · simp only [Act.put, List.setIfInBounds_toArray, List.set_cons_zero, List.set_cons_succ, i64_w, i32_w]
              rfl
            refine take_ (i := 4) (N := some 67) (v := ?_) (a' := ?_) #[true, true, true, true, true, false, false] rfl rfl (by kernel_rfl) (fun _ _ _ h => h) (Or.inl ⟨by rfl, ?_⟩) hHeld ?_ ?_
            rotate_left
            · intro w' s0
              go_simp
              with_reducible rfl
            rotate_left
            · simp only [Act.put, List.setIfInBounds_toArray, List.set_cons_zero, List.set_cons_succ, i64_w, i32_w]
              rfl
            refine one_ (i := 5) (N := none) #[true, true, true, true, true, true, false] rfl rfl (by kernel_rfl) (by decide) (fun K hK => ?_)
            refine skip_ (w1 := ?_) (by rfl) rfl ?_ ?_
            rotate_left
            · go_simp
              rfl
            refine hK.out _ _ (((set4_keeps _ S _ _ _ _).cell hHeld (show ¬ b1 = S by omega))) (fun hHeld => ?_)
            clear hK K
            refine pure_ (i := 6) (N := some 3) (v := ?_) (a' := ?_) #[true, true, true, true, true, true, true] rfl rfl (by kernel_rfl) (fun _ _ _ h => h) (Or.inl ⟨by rfl, ?_⟩) ?_ ?_
            rotate_left
            · intro w'
              go_simp
              with_reducible rfl
            rotate_left
            · simp only [Act.put, List.setIfInBounds_toArray, List.set_cons_zero, List.set_cons_succ, i64_w, i32_w]
              rfl
            refine done_ (by kernel_rfl) ?_
            go_wp2
            refine bodyPost_ret (ret_cell_tmp rfl rfl G.out Tryd.underlying52 rfl infPP) rfl ?_
            exact E.out
end Go.Proofs.YtcfjciencggflaaDoor
