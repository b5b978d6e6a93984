/- ProofMany: as many sides as may be, and one more; as long texts, and longer ones. -/
import Derived.Test.YtmbgfjcmdolggaaDoorLawProofTurned
set_option linter.unusedVariables false
set_option linter.unusedSimpArgs false
namespace Go.Proofs.YtmbgfjcmdolggaaDoor
open Go.RowKit PrintLast

def zs32 : ByteArray := strB (List.replicate 32 0)
theorem zs32_size : zs32.size = 32 := by unfold zs32; rw [strB_size]; rfl
def manyP (n k : Nat) : Prf := ⟨List.replicate n zs32, 1, ⟨#[]⟩, List.replicate k 0⟩
theorem many_holds {n k : Nat} (hn : n < 300) (hk : k < 5000) : Holds (manyP n k) := by
  have h : ∀ s ∈ List.replicate n zs32, s.size = 32 := fun s hs => by rw [List.eq_of_mem_replicate hs]; exact zs32_size
  refine ⟨?_, ?_, ?_, ?_⟩
  · show (List.replicate n zs32).length ≤ _; rw [List.length_replicate]; omega
  · show (sidesS (List.replicate n zs32)).length ≤ _; rw [sidesS_length _ h, List.length_replicate]; omega
  · exact Nat.zero_le _
  · show (List.replicate k (0 : UInt8)).length ≤ _; rw [List.length_replicate]; omega
theorem many_length {n k : Nat} (hn : n < 300) (hk : k < 5000) : (encB (manyP n k)).length ≤ 100000 := by
  have h : ∀ s ∈ List.replicate n zs32, s.size = 32 := fun s hs => by rw [List.eq_of_mem_replicate hs]; exact zs32_size
  have e : encB (manyP n k) = numBytes n 2 ++ sidesS (List.replicate n zs32) ++ 1 :: textS (List.replicate k 0) := by
    unfold encB endS manyP
    simp
  rw [e]
  simp only [List.length_append, numBytes_length, sidesS_length _ h, List.length_cons, textS_length, List.length_replicate]
  omega
theorem many_res {n k : Nat} (hn : n < 300) (hk : k < 5000) : resB (encB (manyP n k)) = if 256 < n ∨ 4000 < k then (2, ⟨[], 0, ⟨#[]⟩, []⟩) else (0, manyP n k) := by
  have h : ∀ s ∈ List.replicate n zs32, s.size = 32 := fun s hs => by rw [List.eq_of_mem_replicate hs]; exact zs32_size
  unfold resB manyP
  have := decB_many (List.replicate n zs32) (List.replicate k 0) h (by rw [List.length_replicate]; omega) (by rw [List.length_replicate]; omega)
  rw [List.length_replicate, List.length_replicate] at this
  rw [show (⟨#[]⟩ : ByteArray) = ByteArray.empty from rfl, this]
  by_cases hc : 256 < n ∨ 4000 < k
  · rw [if_pos hc, if_pos hc]
  · rw [if_neg hc, if_neg hc]
theorem heap_alloc2_old_ (w : World) (o1 o2 : Obj) : ((w.alloc o1).alloc o2).heap[w.heap.size]? = some o1 := (alloc2 w o1 o2).1
theorem bsa_same {w w' : World} {g c : Nat} {l : List UInt8} (h : BSA w (some ⟨g, 0, none⟩) c l) (hh : w'.heap[g]? = w.heap[g]?) : BSA w' (some ⟨g, 0, none⟩) c l :=
  h.moved fun ad v hv ⟨a0, j, e, ha⟩ => (World.cell?_of_block (by cases e; rw [ha, addr_add_block]; exact hh)).trans hv
theorem repl_next (n : Nat) : List.replicate (n + 1) zs32 = List.replicate n zs32 ++ [zs32] := List.replicate_succ'

set_option maxRecDepth 100000 in
set_option maxHeartbeats 12800000 in
theorem many_walk {w : World} (hT : Table w) {n' k' : Int} (hn : (Lit.int .u16 n').wf = true) (hk : (Lit.int .u16 k').wf = true) :
    Calls Tryd.prog 6 #[.int .u16 n', .int .u16 k'] w fun e w' => e = .returned (.bool true) ∧ Below w.heap.size w w' := by
  have hn' := bounds_u16 hn
  have hk' := bounds_u16 hk
  obtain ⟨n', rfl⟩ : ∃ N : Nat, n' = (N : Int) := ⟨n'.toNat, by omega⟩
  obtain ⟨k', rfl⟩ : ∃ N : Nat, k' = (N : Int) := ⟨k'.toNat, by omega⟩
  have hn2 : n' < 65536 := by omega
  have hk2 : k' < 65536 := by omega
  obtain ⟨n, hnn⟩ : ∃ n, n = n' % 270 := ⟨_, rfl⟩
  obtain ⟨k, hkk⟩ : ∃ k, k = k' % 4100 := ⟨_, rfl⟩
  have fn : (n' : Int) % 270 = (n : Int) := by omega
  have fk : (k' : Int) % 4100 = (k : Int) := by omega
  have n270 : n < 270 := by omega
  have k4100 : k < 4100 := by omega
  have mk := fun (w : World) => run_make_row' (P := Tryd.prog) 23 5 (.int .u8 0) 1 Tryd.underlying23 infU8 rfl .i64 .i64 k (by omega) (by omega) w
  have MK := hid mk
  have TT := hid hT
  clear hn hk hn' hk' hnn hkk hT mk
  go_enter Tryd.func6, Tryd.ntmps6
  have HB := hid (bare_any TT.out)
  go_wp2_with fail
  refine HB.out.mono ?_
  rintro e w1 ⟨rfl, b1⟩
  have BB := hid b1
  have BB1 := hid b1.size
  replace TT := hid (TT.out.below b1)
  obtain ⟨S, hS⟩ : ∃ S, S = w1.heap.size := ⟨_, rfl⟩
  have r0 := noughts_row w1 (Nat.le_refl _) (n := k) (by unfold maxLen; omega)
  have al0 := below_alloc (Below.refl _ w1) (.cells (madeCells #[.int .u8 0] k) 5)
  have mk := MK.out w1
  clear b1 HB
  go_upto_region 4 with fail
  rw [← hS]
  have g0 := heap_alloc2_old_ w1 (.cells (madeCells #[.int .u8 0] k) 5) (.cells #[.slice none 0 0, .int .u8 1, .string ⟨#[]⟩, .slice (some ⟨S, 0, none⟩) k k] 36)
  have g1 := (alloc2 w1 (.cells (madeCells #[.int .u8 0] k) 5) (.cells #[.slice none 0 0, .int .u8 1, .string ⟨#[]⟩, .slice (some ⟨S, 0, none⟩) k k] 36)).2.1
  have al := (alloc2 w1 (.cells (madeCells #[.int .u8 0] k) 5) (.cells #[.slice none 0 0, .int .u8 1, .string ⟨#[]⟩, .slice (some ⟨S, 0, none⟩) k k] 36)).2.2
  have z0 := (noughts_bsa (Below.refl _ w1) (n := k) (by unfold maxLen; omega)).below (below_alloc (Below.refl _ _) (.cells #[.slice none 0 0, .int .u8 1, .string ⟨#[]⟩, .slice (some ⟨S, 0, none⟩) k k] 36))
  rw [← hS] at g0 g1 z0
  replace BB := hid (below_then BB.out al)
  replace TT := hid (TT.out.below al)
  have HS := hid hS
  clear r0 al0 mk al hS
  generalize (w1.alloc (.cells (madeCells #[.int .u8 0] k) 5)).alloc (.cells #[.slice none 0 0, .int .u8 1, .string ⟨#[]⟩, .slice (some ⟨S, 0, none⟩) k k] 36) = W at *
  obtain ⟨S1, hS1⟩ : ∃ S1, S1 = S + 1 := ⟨_, rfl⟩
  rw [← hS1] at g1 ⊢
  have o01 : S < S1 := by omega
  have HZ := hid z0
  have L0 : Txt W S none 0 (List.replicate 0 zs32) := Txt.nil _ _
  have hg0 := hid g0
  have B0 := Below.refl S W
  clear hS1 z0
  go_wp2
  go_loopw [6] (fun i wr => ∃ (j c' : Nat) (R : Option Addr), j ≤ n ∧ i = .int .i64 j ∧ Txt wr S R c' (List.replicate j zs32) ∧ wr.heap[S]? = some (.cells (madeCells #[.int .u8 0] k) 5 (0, 0)) ∧ wr.heap[S1]? = some (.cells #[.slice R j c', .int .u8 1, .string ⟨#[]⟩, .slice (some ⟨S, 0, none⟩) k k] 36 (0, 0)) ∧ Below S W wr) (fun i _ => n - (intOf i).toNat)
  case atStart => exact ⟨0, 0, none, Nat.zero_le _, rfl, L0, g0, g1, B0⟩
  case round =>
    clear L0 g0 g1 B0
    obtain ⟨j, c', R, hj, rfl, hL, g0, g1, hB⟩ := hrel
    have sB : S ≤ wr.heap.size := by have := lt_of_block g0; omega
    by_cases hlt : j < n
    · have t1 : decide ((j : Int) < (n : Int)) = true := by simp; omega
      obtain ⟨LS, hLS⟩ : ∃ LS, LS = List.replicate j zs32 := ⟨_, rfl⟩
      rw [← hLS] at hL
      have LL : Hid (LS.length = j) := hid (by rw [hLS, List.length_replicate])
      have NX : Hid (LS ++ [zs32] = List.replicate (j + 1) zs32) := hid (by rw [hLS, repl_next])
      have p0 := cell_at g1 (i := 0) (v := .slice R j c') rfl
      have GG := hid (And.intro g0 (And.intro g1 (And.intro hB hL)))
      have mk32 : ∀ w : World, (Instr.makeSlice 23 (.int .i64 32) (.int .i64 32)).run Tryd.prog w = .ok (.slice (some ⟨w.heap.size, 0, none⟩) 32 32) (w.alloc (.cells (madeCells #[.int .u8 0] 32) 5)) := fun w => run_make_row' (P := Tryd.prog) 23 5 (.int .u8 0) 1 Tryd.underlying23 infU8 rfl .i64 .i64 32 (by omega) (by omega) w
      have MZ : Hid (BSA (wr.alloc (.cells (madeCells #[.int .u8 0] 32) 5)).drew (some ⟨wr.heap.size, 0, none⟩) 32 (List.replicate 32 0)) := hid (noughts_bsa (Below.refl _ wr.drew) (n := 32) (by unfold maxLen; omega))
      have mal : Below wr.drew.heap.size wr.drew (wr.alloc (.cells (madeCells #[.int .u8 0] 32) 5)).drew := below_alloc (Below.refl _ wr.drew) (.cells (madeCells #[.int .u8 0] 32) 5)
      obtain ⟨ZZ, hZZ⟩ : ∃ Z, Z = madeCells #[.int .u8 0] 32 := ⟨_, rfl⟩
      rw [← hZZ] at mk32 MZ mal
      obtain ⟨z32, hz32⟩ : ∃ z, z = List.replicate 32 (0 : UInt8) := ⟨_, rfl⟩
      have NX0 := NX.out
      rw [← hz32] at MZ
      have zl : z32.length = 32 := by rw [hz32]; exact List.length_replicate
      have HZ32 : Hid (strB z32 = zs32) := hid (by rw [hz32]; rfl)
      have ZL := hid zl
      clear hLS g0 g1 hB hL hZZ zl hz32 NX0
      go_wp2
      refine start_ (n := 8) (S := fun w' => w'.cell? ⟨S1, 0, none⟩ = some (.slice R j c')) (ds := [7]) #[false, false, false, false, false, false, false, false] (by kernel_rfl) rfl rfl (p0) (fun hHeld => ?_)
      refine pure_ (i := 0) (N := some 24) (v := ?_) (a' := ?_) #[true, false, false, false, false, false, false, false] rfl rfl (by kernel_rfl) (fun _ _ _ h => h) (Or.inl ⟨by rfl, ?_⟩) ?_ ?_
      rotate_left
      · intro w'
        go_simp
        with_reducible rfl
      rotate_left
      · simp only [Act.put, List.setIfInBounds_toArray, List.set_cons_zero, List.set_cons_succ, i64_w, i32_w]
        rfl
      refine take_ (i := 1) (N := some 25) (v := ?_) (a' := ?_) #[true, true, false, false, false, false, false, false] rfl rfl (by kernel_rfl) (fun _ _ _ h => h) (Or.inl ⟨by rfl, ?_⟩) hHeld ?_ ?_
      rotate_left
      · intro w' s0
        go_simp
        with_reducible rfl
      rotate_left
      · simp only [Act.put, List.setIfInBounds_toArray, List.set_cons_zero, List.set_cons_succ, i64_w, i32_w]
        rfl
      refine one_ (i := 2) (N := some 26) #[true, true, true, false, false, false, false, false] rfl rfl (by kernel_rfl) (by decide) (fun K hK => ?_)
      refine value_ (w1 := ?_) (v := ?_) (by rfl) rfl ?_ ?_
      rotate_left 2
      · go_simp
        constructor
        · rfl
        · rfl
      refine hK.out _ _ ((below_cell mal hHeld)) (fun hHeld => ?_)
      clear hK K
      refine norm_ (a' := ?_) ?_ ?_
      rotate_left
      · show Act.put _ (some 26) _ = _
        simp only [Act.put, List.setIfInBounds_toArray, List.set_cons_zero, List.set_cons_succ, i64_w, i32_w]
        rfl
      refine one_ (i := 3) (N := some 27) #[true, true, true, true, false, false, false, false] rfl rfl (by kernel_rfl) (by decide) (fun K hK => ?_)
      have cv := conv_any ZL.out MZ.out
      refine value_ (w1 := ?_) (v := ?_) (by rfl) rfl ?_ ?_
      rotate_left 2
      · go_simp
        constructor
        · rfl
        · rfl
      refine hK.out _ _ (hHeld) (fun hHeld => ?_)
      clear hK K
      refine norm_ (a' := ?_) ?_ ?_
      rotate_left
      · show Act.put _ (some 27) _ = _
        simp only [Act.put, List.setIfInBounds_toArray, List.set_cons_zero, List.set_cons_succ, i64_w, i32_w]
        rfl
      refine one_ (i := 4) (N := some 28) #[true, true, true, true, true, false, false, false] rfl rfl (by kernel_rfl) (by decide) (fun K hK => ?_)
      refine value_ (w1 := ?_) (v := ?_) (by rfl) rfl ?_ ?_
      rotate_left 2
      · go_simp
        constructor
        · rfl
        · rfl
      have al0 : Below (wr.alloc (.cells ZZ 5)).drew.heap.size (wr.alloc (.cells ZZ 5)).drew ((wr.alloc (.cells ZZ 5)).alloc (.cells #[.string (strB z32)] 9)).drew := below_alloc (Below.refl _ (wr.alloc (.cells ZZ 5)).drew) (.cells #[.string (strB z32)] 9)
      have hs1 : (wr.alloc (.cells ZZ 5)).drew.heap.size = wr.heap.size + 1 := by show (wr.alloc (.cells ZZ 5)).heap.size = _; simp
      have cS0 := cell_at (i := 0) (v := .string (strB z32)) (heap_alloc_new (wr.alloc (.cells ZZ 5)).drew (.cells #[.string (strB z32)] 9)) rfl
      rw [hs1] at cS0
      have cS : ((wr.alloc (.cells ZZ 5)).alloc (.cells #[.string (strB z32)] 9)).drew.cell? ⟨wr.heap.size + 1, 0, none⟩ = some (.string (strB z32)) := cS0
      clear cS0 hs1
      have alS := mal.size
      have y0 := below_heap mal (show wr.drew.heap[S]? = _ from GG.out.1)
      have y1 := below_heap mal (show wr.drew.heap[S1]? = _ from GG.out.2.1)
      have yL := (show Txt wr.drew S R c' LS from GG.out.2.2.2).below mal
      have yB : Below S W (wr.alloc (.cells ZZ 5)).drew := GG.out.2.2.1.drew.alloc sB (.cells ZZ 5)
      have ys : S ≤ (wr.alloc (.cells ZZ 5)).drew.heap.size := Nat.le_trans sB alS
      refine hK.out _ _ ((below_cell al0 hHeld)) (fun hHeld => ?_)
      clear hK K
      refine norm_ (a' := ?_) ?_ ?_
      rotate_left
      · show Act.put _ (some 28) _ = _
        simp only [Act.put, List.setIfInBounds_toArray, List.set_cons_zero, List.set_cons_succ, i64_w, i32_w]
        rfl
      refine one_ (i := 5) (N := some 29) #[true, true, true, true, true, true, false, false] rfl rfl (by kernel_rfl) (by decide) (fun K hK => ?_)
      refine step_appT rfl (.tmp 25) (.tmp 28) rfl S (Nat.le_trans ys al0.size) R c' j LS rfl LL.out (yL.below al0) _ (strB z32) rfl cS (by omega) ?_
      intro R2 c2 w2 m1 m2 m3
      have e1 := (yL.below al0).beside LL.out m2 (below_heap al0 y1) (by decide)
      have e0 := (yL.below al0).beside LL.out m2 (below_heap al0 y0) (by decide)
      have eB := (yL.below al0).grew LL.out m2 (yB.alloc ys _) (Nat.le_trans ys al0.size)
      have d0 := cell_at e1 (i := 0) (v := .slice R j c') rfl
      have d1 := free_at e1 0
      refine hK.out _ _ (d0) (fun hHeld => ?_)
      clear hK K
      refine norm_ (a' := ?_) ?_ ?_
      rotate_left
      · show Act.put _ (some 29) _ = _
        simp only [Act.put, List.setIfInBounds_toArray, List.set_cons_zero, List.set_cons_succ, i64_w, i32_w]
        rfl
      refine pure_ (i := 6) (N := some 30) (v := ?_) (a' := ?_) #[true, true, true, true, true, true, true, false] rfl rfl (by kernel_rfl) (fun _ _ _ h => h) (Or.inl ⟨by rfl, ?_⟩) ?_ ?_
      rotate_left
      · intro w'
        go_simp
        with_reducible rfl
      rotate_left
      · simp only [Act.put, List.setIfInBounds_toArray, List.set_cons_zero, List.set_cons_succ, i64_w, i32_w]
        rfl
      refine last_ (i := 7) (N := none) #[true, true, true, true, true, true, true, true] rfl rfl (by kernel_rfl) (by decide) (fun K hK => ?_)
      refine skip_ (w1 := ?_) (by rfl) rfl ?_ ?_
      rotate_left
      · go_simp
        rfl
      refine hK.out _ _ ?_
      clear hK K
      refine done_ (by kernel_rfl) ?_
      have e1' : (w2.setCell ⟨S1, 0, none⟩ (.slice R2 (j + 1) c2)).heap[S1]? = some (.cells #[.slice R2 (j + 1) c2, .int .u8 1, .string ⟨#[]⟩, .slice (some ⟨S, 0, none⟩) k k] 36 (0, 0)) := by rw [heap_set e1]; rfl
      have e0' := (keeps_one w2 S1 0 (.slice R2 (j + 1) c2)).heap e0 (by omega)
      have eL' := m1.far (keeps_one w2 S1 0 (.slice R2 (j + 1) c2)) e1 (by decide)
      have eB' := eB.setCell (p := ⟨S1, 0, none⟩) (show S ≤ S1 by omega) (.slice R2 (j + 1) c2)
      rw [HZ32.out, NX.out] at eL'
      clear m1 m2 m3 e1 e0 eB d0 d1 al0 GG NX p0 y0 y1 yL yB ys sB mk32 MZ mal alS cv ZL cS
      generalize w2.setCell ⟨S1, 0, none⟩ (.slice R2 (j + 1) c2) = w3 at *
      go_wp2
      go_roundw
      case rel => exact ⟨j + 1, c2, R2, hlt, by go_num, eL', e0', e1', eB'⟩
      case measure => simp [intOf]; omega
    · obtain rfl : j = n := by omega
      have t1 : decide ((j : Int) < (j : Int)) = false := by simp
      have zr : BSA wr (some ⟨S, 0, none⟩) k (List.replicate k 0) := bsa_same HZ.out (g0.trans hg0.out.symm)
      have hBW : Below w.heap.size w wr := BB.out.trans (hB.mono (by rw [HS.out]; have := BB1.out; omega))
      have PP : Hid (PrfAt wr R j c' (some ⟨S, 0, none⟩) k k (manyP j k)) := hid ⟨by show (List.replicate j zs32).length = j; exact List.length_replicate, by show (List.replicate k (0 : UInt8)).length = k; exact List.length_replicate, by omega, hL.at_, zr⟩
      replace BB := hid hBW
      obtain ⟨v0, v1, v2, v3, -, -, -, -⟩ := four g1
      clear hL zr hBW g0 g1 hB HZ hg0
      have H := hid (renc_any (c := c') (p := manyP j k) PP.out.1 PP.out.2.1 PP.out.2.2.2.1 PP.out.2.2.2.2 (many_holds (by omega) (by omega)))
      go_wp2_with fail
      refine H.out.mono ?_
      rintro e w5 ⟨A5, c5, rfl, r5, b5⟩
      replace BB := hid (below_then BB.out b5)
      obtain ⟨N, hN⟩ : ∃ N, N = (encB (manyP j k)).length := ⟨_, rfl⟩
      have hN2 : N ≤ 100000 := by rw [hN]; exact many_length (by omega) (by omega)
      rw [← hN]
      have HQ := hid hN
      have QQ := hid r5
      clear H hN r5 b5 v0 v1 v2 v3
      have D := hid (dec_any HQ.out.symm QQ.out.bsa (by omega))
      go_wp2_with fail
      refine D.out.mono ?_
      rintro e w6 ⟨A6, c6, B6, d6, rfl, t6, r6, b6⟩
      replace BB := hid (below_then BB.out b6)
      replace QQ := hid (QQ.out.below b6)
      unfold prfV
      have HR0 := many_res (n := j) (k := k) (by omega) (by omega)
      obtain ⟨RR, hRR⟩ : ∃ RR, RR = resB (encB (manyP j k)) := ⟨_, rfl⟩
      rw [← hRR] at HR0 ⊢
      obtain ⟨en, P⟩ := RR
      have HEN := hid (congrArg Prod.fst HR0)
      obtain ⟨ns, hns⟩ : ∃ ns, ns = (en, P).2.side.length := ⟨_, rfl⟩
      obtain ⟨nr, hnr⟩ : ∃ nr, nr = (en, P).2.row.length := ⟨_, rfl⟩
      rw [← hns, ← hnr]
      have al := below_alloc (Below.refl _ w6) (.cells #[.slice A6 ns c6, .int .u8 (P.kind.toNat : Int), .string P.key, .slice B6 nr d6] 30)
      replace BB := hid (below_then BB.out al)
      replace QQ := hid (QQ.out.below al)
      have RD := hid (reads_n HQ.out.symm QQ.out.bsa (by omega))
      clear D t6 r6 b6 HR0 hRR hns hnr al
      go_wp2_with fail
      refine RD.out.mono ?_
      rintro e w7 ⟨rfl, b7⟩
      replace BB := hid (below_then BB.out b7)
      clear RD b7
      by_cases h1 : j ≤ 256
      · have u1 : decide ((j : Int) ≤ 256) = true := by simp; omega
        by_cases h2 : k ≤ 4000
        · have u2 : decide ((k : Int) ≤ 4000) = true := by simp; omega
          have u3 : ((en : Int) == 0) = true := by rw [show en = 0 by have := HEN.out; rw [if_neg (by omega)] at this; exact this]; rfl
          go_wp2
          go_ret
          exact ⟨rfl, BB.out⟩
        · have u2 : decide ((k : Int) ≤ 4000) = false := by simp; omega
          have u3 : ((en : Int) == 0) = false := by rw [show en = 2 by have := HEN.out; rw [if_pos (by omega)] at this; exact this]; rfl
          go_wp2
          go_ret
          exact ⟨rfl, BB.out⟩
      · have u1 : decide ((j : Int) ≤ 256) = false := by simp; omega
        have u3 : ((en : Int) == 0) = false := by rw [show en = 2 by have := HEN.out; rw [if_pos (by omega)] at this; exact this]; rfl
        go_wp2
        go_ret
        exact ⟨rfl, BB.out⟩
end Go.Proofs.YtmbgfjcmdolggaaDoor
