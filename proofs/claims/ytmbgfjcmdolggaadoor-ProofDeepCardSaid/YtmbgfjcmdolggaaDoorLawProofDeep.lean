/- ProofDeep: the sides of a proof are the digests beside the way. -/
import Derived.Test.YtmbgfjcmdolggaaDoorLawProofBuilds
set_option linter.unusedVariables false
set_option linter.unusedSimpArgs false
namespace Go.Proofs.YtmbgfjcmdolggaaDoor
open Go.RowKit PrintLast

theorem bytes_same {w : World} {A B : Option Addr} {c d n : Nat} {l : List UInt8} (hn : l.length = n) (hx : BSA w A c l) (hy : BSA w B d l) :
    Calls Tryd.prog 19 #[.slice A n c, .slice B n d] w fun e w' => e = .returned (.bool true) ∧ Below w.heap.size w w' := by
  subst hn
  have := bytes_any hx hy
  rwa [show decide (l = l) = true by simp] at this
/-- A proof in a block of its own: what is read of it. -/
def Side (w : World) (S : Nat) (A : Option Addr) (n c : Nat) (kd : Int) (ky : ByteArray) (B : Option Addr) (m d : Nat) (P : Prf) : Prop := w.heap[S]? = some (.cells #[.slice A n c, .int .u8 kd, .string ky, .slice B m d] 30 (0, 0)) ∧ PrfAt w A n c B m d P
theorem Side.below {w w' : World} {S n c m d : Nat} {A B : Option Addr} {kd : Int} {ky : ByteArray} {P : Prf} (h : Side w S A n c kd ky B m d P) (hb : Below w.heap.size w w') : Side w' S A n c kd ky B m d P := ⟨below_heap hb h.1, h.2.below hb⟩
/-- The tree that is left to walk. -/
def WayAt (w : World) (v : Value) (t : Tr) (j : Nat) (key : ByteArray) (P : Prf) (E : Tr) : Prop := Tree w v t ∧ t.Small ∧ (walkT t j key).1 = P.side.drop j ∧ (walkT t j key).2 = E
theorem WayAt.below {w w' : World} {v : Value} {t E : Tr} {j : Nat} {key : ByteArray} {P : Prf} (h : WayAt w v t j key P E) (hb : Below w.heap.size w w') : WayAt w' v t j key P E := ⟨Tree.below h.1 hb, h.2⟩

set_option maxRecDepth 100000 in
set_option maxHeartbeats 12800000 in
theorem deep_walk {w : World} (hT : Table w) {A : Option Addr} {cap : Nat} {l : List PAct} {u' : Int} (h0 : l.length ≤ cap ∧ cap ≤ maxLen ∧ PActsAt w A l) (hu : (Lit.int .u8 u').wf = true) :
    Calls Tryd.prog 10 #[.slice A l.length cap, .int .u8 u'] w fun e w' => e = .returned (.bool true) ∧ Below w.heap.size w w' := by
  obtain ⟨u, rfl⟩ : ∃ b8 : UInt8, u' = (b8.toNat : Int) := ⟨UInt8.ofNat u'.toNat, (u8_of_int hu).symm⟩
  obtain ⟨n, hn⟩ : ∃ n, n = l.length := ⟨_, rfl⟩
  rw [← hn] at h0 ⊢
  have HN := hid hn.symm
  have HC := hid (And.intro h0.1 h0.2.1)
  have AA := hid h0.2.2
  have TT := hid hT
  have BB := hid (Below.refl w.heap.size w)
  clear hn hT h0 hu
  by_cases hsm : SmallL l
  · have hd : decide (SmallL l) = true := by simp [hsm]
    have SM := hid hsm
    have HD := hid hd
    clear hsm hd
    go_enter Tryd.func10, Tryd.ntmps10
    have HC1 := hid (bare_any TT.out)
    go_wp2_with fail
    refine HC1.out.mono ?_
    rintro e w1 ⟨rfl, b1⟩
    clear HC1
    replace TT := hid (TT.out.below b1)
    replace AA := hid (AA.out.below b1)
    replace BB := hid (below_then BB.out b1)
    clear b1
    have S0 := small_any HN.out AA.out HC.out.1 HC.out.2
    rw [HD.out] at S0
    have S1 := hid S0
    clear S0
    go_wp2_with fail
    refine S1.out.mono ?_
    rintro e w2 ⟨rfl, rfl⟩
    clear S1
    have HC2 := hid (made_any TT.out HN.out AA.out HC.out.1 SM.out)
    go_wp2_with fail
    refine HC2.out.mono ?_
    rintro e w3 ⟨v, MA, mc, mn, li, L, rfl, hM, b3⟩
    clear HC2
    replace TT := hid (TT.out.below b3)
    replace AA := hid (AA.out.below b3)
    replace BB := hid (below_then BB.out b3)
    have MM := hid hM
    clear hM b3
    clear AA
    obtain ⟨kb, hkb⟩ : ∃ kb : UInt8, kb = u % 26 := ⟨_, rfl⟩
    have e1 : (u.toNat : Int) % 26 = (kb.toNat : Int) := by rw [hkb, UInt8.toNat_mod]; rfl
    have cv := key_conv w3 kb
    have al := below_alloc (Below.refl _ w3) (.cells #[.int .u8 107, .int .u8 (kb.toNat : Int)] 5)
    clear hkb
    replace TT := hid (TT.out.below al)
    replace MM := hid (MM.out.below al)
    replace BB := hid (below_then BB.out al)
    clear al
    go_upto_region 5 with fail
    generalize w3.alloc (.cells #[.int .u8 107, .int .u8 (kb.toNat : Int)] 5) = w4 at *
    clear cv e1
    obtain ⟨k1, hk1⟩ : ∃ k1, k1 = key2 kb := ⟨_, rfl⟩
    have ks : k1.size ≤ 1000000 := by rw [hk1, key2_size]; omega
    have ksm : k1.size ≤ maxLen := by unfold maxLen; omega
    rw [← hk1]
    clear hk1
    obtain ⟨T, hTT⟩ : ∃ T, T = treeF 256 li := ⟨_, rfl⟩
    have tree := MM.out.2.2.2.1
    have small : T.Small := by rw [hTT]; exact treeF_small 256 li (fun x hx => by have := MM.out.2.2.2.2.2.2.row x hx; omega)
    have PB0 := pbuild2 (key := k1) TT.out MM.out ks
    have pl := buildT_len 256 li k1
    rw [← hTT] at PB0 tree pl
    have PBH := hid PB0
    have WY := hid (show WayAt w4 v T 0 k1 (buildT T k1) (walkT T 0 k1).2 from ⟨tree, small, by rw [show (buildT T k1).side = (walkT T 0 k1).1 from endT_side _ _ _]; rfl, rfl⟩)
    have EP := hid (show buildT T k1 = endT (walkT T 0 k1).1 (walkT T 0 k1).2 k1 from rfl)
    have PL := hid pl
    clear PB0 tree small pl hTT
    clear MM
    go_wp2_with fail
    refine PBH.out.mono ?_
    rintro e w5 ⟨PA, pn, pc, kd, ky, PB, pm, pd, rfl, p5, b5⟩
    clear PBH
    replace TT := hid (TT.out.below b5)
    replace WY := hid (WY.out.below b5)
    replace BB := hid (below_then BB.out b5)
    have al := below_alloc (Below.refl _ w5) (.cells #[.slice PA pn pc, .int .u8 kd, .string ky, .slice PB pm pd] 30)
    have SD0 := hid (show Side (w5.alloc (.cells #[.slice PA pn pc, .int .u8 kd, .string ky, .slice PB pm pd] 30)) w5.heap.size PA pn pc kd ky PB pm pd (buildT T k1) from ⟨heap_alloc_new w5 _, p5.out.1.below al⟩)
    have KD := hid p5.out.2
    clear b5 p5
    replace TT := hid (TT.out.below al)
    replace WY := hid (WY.out.below al)
    replace BB := hid (below_then BB.out al)
    clear al
    go_upto_block 0 with fail
    obtain ⟨S8, hS8⟩ : ∃ S8, S8 = w5.heap.size := ⟨_, rfl⟩
    rw [← hS8] at SD0 ⊢
    generalize w5.alloc (.cells #[.slice PA pn pc, .int .u8 kd, .string ky, .slice PB pm pd] 30) = w6 at *
    clear hS8
    obtain ⟨P, hP⟩ : ∃ P, P = buildT T k1 := ⟨_, rfl⟩
    obtain ⟨E, hE⟩ : ∃ E, E = (walkT T 0 k1).2 := ⟨_, rfl⟩
    rw [← hP, ← hE] at WY
    rw [← hP] at SD0 KD PL
    have EP2 := EP.out
    rw [← hP, ← hE] at EP2
    have EPS := hid EP2
    have pn256 : pn ≤ 256 := by have := SD0.out.2.1; have := PL.out; omega
    clear EP EP2 hP hE PL
    go_wp2
    go_loopw [5, 9] (fun tv i wr => ∃ (j : Nat) (v : Value) (t : Tr), j ≤ pn ∧ i = .int .i64 j ∧ v = tv ∧ Hid (WayAt wr v t j k1 P E) ∧ Hid (Side wr S8 PA pn pc kd ky PB pm pd P) ∧ Hid (Table wr) ∧ Hid (Below w.heap.size w wr)) (fun _ i _ => pn - (intOf i).toNat)
    case atStart => exact ⟨0, v, T, Nat.zero_le _, rfl, rfl, WY, SD0, TT, BB⟩
    case round =>
      clear WY SD0 TT BB
      obtain ⟨j, v, t, hj, rfl, rfl, WY, SD, TT, BB⟩ := hrel
      obtain ⟨v0, v1, v2, v3, -, -, -, -⟩ := four SD.out.1
      by_cases hlt : j < pn
      · have t1 : decide ((j : Int) < (pn : Int)) = true := by simp; omega
        have t1' : decide (j < pn) = true := by simp; omega
        have jl : j < P.side.length := by have := SD.out.2.1; omega
        obtain ⟨g, o, rfl, qs⟩ := SD.out.2.2.2.2.1.at_ j jl
        obtain ⟨q, hq⟩ : ∃ q, q = P.side[j] := ⟨_, rfl⟩
        rw [← hq] at qs
        have hd1 : P.side.drop j = q :: P.side.drop (j + 1) := by rw [List.drop_eq_getElem_cons jl, hq]
        cases t with
        | nil => exact absurd WY.out.2.2.1 (by rw [hd1]; simp [walkT])
        | leaf y => exact absurd WY.out.2.2.1 (by rw [hd1]; simp [walkT])
        | node tl tr =>
          have HQ := hid hd1
          have HX := hid (halves_node WY.out.1)
          have sm := WY.out.2.1
          have WE := hid WY.out.2.2
          have SMH := hid sm
          have Q0 := hid qs
          have jb := hj
          clear hq hd1 sm WY qs v1 v2 v3
          go_wp2_with fail
          refine HX.out.mono ?_
          rintro e w7 ⟨vl, vr, rfl, tl0, tr0, b7⟩
          replace BB := hid (below_then BB.out b7)
          replace TT := hid (TT.out.below b7)
          replace SD := hid (SD.out.below b7)
          replace Q0 := hid (below_cell b7 Q0.out)
          have TL := hid (show Tree w7 vl tl from tl0.raise b7.size)
          have TR := hid (show Tree w7 vr tr from tr0.raise b7.size)
          clear HX tl0 tr0 b7 v0
          go_wp2_with (refine wpList_conv rfl (.tmp 54) rfl k1 rfl ksm ?_)
          intro ga ca w8 _ z1 b8
          replace BB := hid (below_then BB.out b8)
          replace TT := hid (TT.out.below b8)
          replace SD := hid (SD.out.below b8)
          replace Q0 := hid (below_cell b8 Q0.out)
          replace TL := hid (Tree.below TL.out b8)
          replace TR := hid (Tree.below TR.out b8)
          have HS := hid (rsumK ks z1)
          clear z1 b8
          go_wp2_with fail
          refine HS.out.mono ?_
          rintro e w9 ⟨rfl, b9⟩
          replace BB := hid (below_then BB.out b9)
          replace TT := hid (TT.out.below b9)
          replace SD := hid (SD.out.below b9)
          replace Q0 := hid (below_cell b9 Q0.out)
          replace TL := hid (Tree.below TL.out b9)
          replace TR := hid (Tree.below TR.out b9)
          have H0 := rbitK (w := w9) (k := k1) (d := j) (by omega)
          obtain ⟨bt, hbt⟩ : ∃ bt, bt = btK k1 j := ⟨_, rfl⟩
          have hb2 : bt = 0 ∨ bt = 1 := by rw [hbt]; exact btK_two _ _
          rw [← hbt] at H0
          have HBit := hid H0
          have HBT := hid hbt
          clear HS b9 H0 hbt
          rcases hb2 with rfl | rfl
          · have tb : ((0 : Int) == 1) = false := rfl
            go_wp2_with fail
            refine HBit.out.mono ?_
            rintro e w10 ⟨rfl, rfl⟩
            go_upto_region 14 with fail
            have hn1 : q = digS tr ∧ (walkT tl (j + 1) k1).1 = P.side.drop (j + 1) ∧ (walkT tl (j + 1) k1).2 = E := by
              have h1 := WE.out.1
              have h2 := WE.out.2
              rw [HQ.out] at h1
              simp only [walkT] at h1 h2
              rw [← HBT.out] at h1 h2
              simp at h1 h2
              exact ⟨h1.1.symm, h1.2, h2⟩
            have al : Below w9.heap.size w9 w9.drew := (Below.refl w9.heap.size w9).drew
            have dg0 : Calls Tryd.prog 32 #[vr] w9.drew fun e w' => e = .returned (.string q) ∧ Below w9.drew.heap.size w9.drew w' := by
              rw [hn1.1]
              exact digest_any (TT.out.below al) (Tree.below TR.out al)
            have DG := hid dg0
            have WN := hid hn1.2
            have c0 := cell_at SD.out.1 (i := 0) (v := .slice (some ⟨g, o, none⟩) pn pc) rfl
            have cq := Q0.out
            have SDd := hid (SD.out.below al)
            have TNd := hid (Tree.below TL.out al)
            have TTd := hid (TT.out.below al)
            have BBd := hid (below_then BB.out al)
            clear hn1 dg0 al HBit WE HQ HBT Q0 SD TT BB TL TR
            refine start_ (n := 8) (S := fun w' => w'.cell? ⟨S8, 0, none⟩ = some (.slice (some ⟨g, o, none⟩) pn pc) ∧ w'.cell? ⟨g, o + j, none⟩ = some (.string q)) (ds := []) #[false, false, false, false, false, false, false, false] (by kernel_rfl) rfl rfl ⟨c0, cq⟩ (fun hHeld => ?_)
            refine pure_ (i := 0) (N := some 62) (v := ?_) (a' := ?_) #[true, false, false, false, false, false, false, false] rfl rfl (by kernel_rfl) (fun _ _ _ h => h) (Or.inl ⟨by rfl, ?_⟩) ?_ ?_
            rotate_left
            · intro w'
              go_simp
              with_reducible rfl
            rotate_left
            · simp only [Act.put, List.setIfInBounds_toArray, List.set_cons_zero, List.set_cons_succ, i64_w, i32_w]
              rfl
            refine pure_ (i := 2) (N := some 64) (v := ?_) (a' := ?_) #[true, false, true, false, false, false, false, false] rfl rfl (by kernel_rfl) (fun _ _ _ h => h) (Or.inl ⟨by rfl, ?_⟩) ?_ ?_
            rotate_left
            · intro w'
              go_simp
              with_reducible rfl
            rotate_left
            · simp only [Act.put, List.setIfInBounds_toArray, List.set_cons_zero, List.set_cons_succ, i64_w, i32_w]
              rfl
            refine pure_ (i := 4) (N := some 66) (v := ?_) (a' := ?_) #[true, false, true, false, true, false, false, false] rfl rfl (by kernel_rfl) (fun _ _ _ h => h) (Or.inl ⟨by rfl, ?_⟩) ?_ ?_
            rotate_left
            · intro w'
              go_simp
              with_reducible rfl
            rotate_left
            · simp only [Act.put, List.setIfInBounds_toArray, List.set_cons_zero, List.set_cons_succ, i64_w, i32_w]
              rfl
            refine take_ (i := 3) (N := some 65) (v := ?_) (a' := ?_) #[true, false, true, true, true, false, false, false] rfl rfl (by kernel_rfl) (fun _ _ _ h => h) (Or.inl ⟨by rfl, ?_⟩) hHeld ?_ ?_
            rotate_left
            · rintro w' ⟨s0, s1⟩
              go_simp
              with_reducible rfl
            rotate_left
            · simp only [Act.put, List.setIfInBounds_toArray, List.set_cons_zero, List.set_cons_succ, i64_w, i32_w]
              rfl
            refine pure_ (i := 5) (N := some 67) (v := ?_) (a' := ?_) #[true, false, true, true, true, true, false, false] rfl rfl (by kernel_rfl) (fun _ _ _ h => h) (Or.inl ⟨by rfl, ?_⟩) ?_ ?_
            rotate_left
            · intro w'
              go_simp
              with_reducible rfl
            rotate_left
            · simp only [Act.put, List.setIfInBounds_toArray, List.set_cons_zero, List.set_cons_succ, i64_w, i32_w]
              rfl
            refine take_ (i := 6) (N := some 68) (v := ?_) (a' := ?_) #[true, false, true, true, true, true, true, false] rfl rfl (by kernel_rfl) (fun _ _ _ h => h) (Or.inl ⟨by rfl, ?_⟩) hHeld ?_ ?_
            rotate_left
            · rintro w' ⟨s0, s1⟩
              go_simp
              with_reducible rfl
            rotate_left
            · simp only [Act.put, List.setIfInBounds_toArray, List.set_cons_zero, List.set_cons_succ, i64_w, i32_w]
              rfl
            refine one_ (i := 1) (N := some 63) #[true, true, true, true, true, true, true, false] rfl rfl (by kernel_rfl) (by decide) (fun K hK => ?_)
            refine goes_ Tryd.func32 (by kernel_rfl) rfl #[vr] (by rfl) rfl rfl (by simp only [List.map_toArray, List.map_cons, List.map_nil]; rfl) ?_
            with_reducible refine (DG.out).mono ?_
            rintro e' w11 ⟨rfl, b11⟩
            refine ⟨_, rfl, ?_⟩
            refine hK.out _ _ ⟨(below_cell b11 hHeld.1), (below_cell b11 hHeld.2)⟩ (fun hHeld => ?_)
            clear hK K
            refine norm_ (a' := ?_) ?_ ?_
            rotate_left
            · show Act.put _ (some 63) _ = _
              simp only [Act.put, List.setIfInBounds_toArray, List.set_cons_zero, List.set_cons_succ, i64_w, i32_w]
              rfl
            refine pure_ (i := 7) (N := some 69) (v := ?_) (a' := ?_) #[true, true, true, true, true, true, true, true] rfl rfl (by kernel_rfl) (fun _ _ _ h => h) (Or.inl ⟨by rfl, ?_⟩) ?_ ?_
            rotate_left
            · intro w'
              go_simp
              with_reducible rfl
            rotate_left
            · simp only [Act.put, List.setIfInBounds_toArray, List.set_cons_zero, List.set_cons_succ, i64_w, i32_w]
              rfl
            refine done_ (by kernel_rfl) ?_
            have tq : (q.toList == q.toList) = true := by simp
            have WY2 : Hid (WayAt w11 vl tl (j + 1) k1 P E) := hid ⟨Tree.below TNd.out b11, SMH.out.1, WN.out⟩
            have SD2 := hid (SDd.out.below b11)
            have TT2 := hid (TTd.out.below b11)
            have BB2 := hid (below_then BBd.out b11)
            clear b11 TNd SDd TTd BBd DG WN c0 cq
            go_wp2
            go_roundw
            case rel => exact ⟨j + 1, vl, tl, hlt, by go_num, rfl, WY2, SD2, TT2, BB2⟩
            case measure => simp [intOf]; omega
          · have tb : ((1 : Int) == 1) = true := rfl
            go_wp2_with fail
            refine HBit.out.mono ?_
            rintro e w10 ⟨rfl, rfl⟩
            go_upto_region 14 with fail
            have hn1 : q = digS tl ∧ (walkT tr (j + 1) k1).1 = P.side.drop (j + 1) ∧ (walkT tr (j + 1) k1).2 = E := by
              have h1 := WE.out.1
              have h2 := WE.out.2
              rw [HQ.out] at h1
              simp only [walkT] at h1 h2
              rw [← HBT.out] at h1 h2
              simp at h1 h2
              exact ⟨h1.1.symm, h1.2, h2⟩
            have al : Below w9.heap.size w9 w9.drew := (Below.refl w9.heap.size w9).drew
            have dg0 : Calls Tryd.prog 32 #[vl] w9.drew fun e w' => e = .returned (.string q) ∧ Below w9.drew.heap.size w9.drew w' := by
              rw [hn1.1]
              exact digest_any (TT.out.below al) (Tree.below TL.out al)
            have DG := hid dg0
            have WN := hid hn1.2
            have c0 := cell_at SD.out.1 (i := 0) (v := .slice (some ⟨g, o, none⟩) pn pc) rfl
            have cq := Q0.out
            have SDd := hid (SD.out.below al)
            have TNd := hid (Tree.below TR.out al)
            have TTd := hid (TT.out.below al)
            have BBd := hid (below_then BB.out al)
            clear hn1 dg0 al HBit WE HQ HBT Q0 SD TT BB TL TR
            refine start_ (n := 8) (S := fun w' => w'.cell? ⟨S8, 0, none⟩ = some (.slice (some ⟨g, o, none⟩) pn pc) ∧ w'.cell? ⟨g, o + j, none⟩ = some (.string q)) (ds := []) #[false, false, false, false, false, false, false, false] (by kernel_rfl) rfl rfl ⟨c0, cq⟩ (fun hHeld => ?_)
            refine pure_ (i := 0) (N := some 62) (v := ?_) (a' := ?_) #[true, false, false, false, false, false, false, false] rfl rfl (by kernel_rfl) (fun _ _ _ h => h) (Or.inl ⟨by rfl, ?_⟩) ?_ ?_
            rotate_left
            · intro w'
              go_simp
              with_reducible rfl
            rotate_left
            · simp only [Act.put, List.setIfInBounds_toArray, List.set_cons_zero, List.set_cons_succ, i64_w, i32_w]
              rfl
            refine pure_ (i := 2) (N := some 64) (v := ?_) (a' := ?_) #[true, false, true, false, false, false, false, false] rfl rfl (by kernel_rfl) (fun _ _ _ h => h) (Or.inl ⟨by rfl, ?_⟩) ?_ ?_
            rotate_left
            · intro w'
              go_simp
              with_reducible rfl
            rotate_left
            · simp only [Act.put, List.setIfInBounds_toArray, List.set_cons_zero, List.set_cons_succ, i64_w, i32_w]
              rfl
            refine pure_ (i := 4) (N := some 66) (v := ?_) (a' := ?_) #[true, false, true, false, true, false, false, false] rfl rfl (by kernel_rfl) (fun _ _ _ h => h) (Or.inl ⟨by rfl, ?_⟩) ?_ ?_
            rotate_left
            · intro w'
              go_simp
              with_reducible rfl
            rotate_left
            · simp only [Act.put, List.setIfInBounds_toArray, List.set_cons_zero, List.set_cons_succ, i64_w, i32_w]
              rfl
            refine take_ (i := 3) (N := some 65) (v := ?_) (a' := ?_) #[true, false, true, true, true, false, false, false] rfl rfl (by kernel_rfl) (fun _ _ _ h => h) (Or.inl ⟨by rfl, ?_⟩) hHeld ?_ ?_
            rotate_left
            · rintro w' ⟨s0, s1⟩
              go_simp
              with_reducible rfl
            rotate_left
            · simp only [Act.put, List.setIfInBounds_toArray, List.set_cons_zero, List.set_cons_succ, i64_w, i32_w]
              rfl
            refine pure_ (i := 5) (N := some 67) (v := ?_) (a' := ?_) #[true, false, true, true, true, true, false, false] rfl rfl (by kernel_rfl) (fun _ _ _ h => h) (Or.inl ⟨by rfl, ?_⟩) ?_ ?_
            rotate_left
            · intro w'
              go_simp
              with_reducible rfl
            rotate_left
            · simp only [Act.put, List.setIfInBounds_toArray, List.set_cons_zero, List.set_cons_succ, i64_w, i32_w]
              rfl
            refine take_ (i := 6) (N := some 68) (v := ?_) (a' := ?_) #[true, false, true, true, true, true, true, false] rfl rfl (by kernel_rfl) (fun _ _ _ h => h) (Or.inl ⟨by rfl, ?_⟩) hHeld ?_ ?_
            rotate_left
            · rintro w' ⟨s0, s1⟩
              go_simp
              with_reducible rfl
            rotate_left
            · simp only [Act.put, List.setIfInBounds_toArray, List.set_cons_zero, List.set_cons_succ, i64_w, i32_w]
              rfl
            refine one_ (i := 1) (N := some 63) #[true, true, true, true, true, true, true, false] rfl rfl (by kernel_rfl) (by decide) (fun K hK => ?_)
            refine goes_ Tryd.func32 (by kernel_rfl) rfl #[vl] (by rfl) rfl rfl (by simp only [List.map_toArray, List.map_cons, List.map_nil]; rfl) ?_
            with_reducible refine (DG.out).mono ?_
            rintro e' w11 ⟨rfl, b11⟩
            refine ⟨_, rfl, ?_⟩
            refine hK.out _ _ ⟨(below_cell b11 hHeld.1), (below_cell b11 hHeld.2)⟩ (fun hHeld => ?_)
            clear hK K
            refine norm_ (a' := ?_) ?_ ?_
            rotate_left
            · show Act.put _ (some 63) _ = _
              simp only [Act.put, List.setIfInBounds_toArray, List.set_cons_zero, List.set_cons_succ, i64_w, i32_w]
              rfl
            refine pure_ (i := 7) (N := some 69) (v := ?_) (a' := ?_) #[true, true, true, true, true, true, true, true] rfl rfl (by kernel_rfl) (fun _ _ _ h => h) (Or.inl ⟨by rfl, ?_⟩) ?_ ?_
            rotate_left
            · intro w'
              go_simp
              with_reducible rfl
            rotate_left
            · simp only [Act.put, List.setIfInBounds_toArray, List.set_cons_zero, List.set_cons_succ, i64_w, i32_w]
              rfl
            refine done_ (by kernel_rfl) ?_
            have tq : (q.toList == q.toList) = true := by simp
            have WY2 : Hid (WayAt w11 vr tr (j + 1) k1 P E) := hid ⟨Tree.below TNd.out b11, SMH.out.2, WN.out⟩
            have SD2 := hid (SDd.out.below b11)
            have TT2 := hid (TTd.out.below b11)
            have BB2 := hid (below_then BBd.out b11)
            clear b11 TNd SDd TTd BBd DG WN c0 cq
            go_wp2
            go_roundw
            case rel => exact ⟨j + 1, vr, tr, hlt, by go_num, rfl, WY2, SD2, TT2, BB2⟩
            case measure => simp [intOf]; omega
      · obtain rfl : pn = j := by omega
        have t1 : decide ((pn : Int) < (pn : Int)) = false := by simp
        have hnil : (walkT t pn k1).1 = [] := by rw [WY.out.2.2.1]; exact List.drop_eq_nil_of_le (by rw [SD.out.2.1]; exact Nat.le_refl _)
        have hE := WY.out.2.2.2
        cases t with
        | node tl tr =>
          simp only [walkT] at hnil
          split at hnil <;> simp at hnil
        | nil =>
          have e0 : v = .pointer none := WY.out.1
          subst e0
          have hE' : E = .nil := hE.symm
          have hP : P = ⟨(walkT T 0 k1).1, 0, ⟨#[]⟩, []⟩ := by
            have := EPS.out
            rw [hE'] at this
            exact this
          have kd0 : kd = 0 := by rw [← KD.out.1, hP]; rfl
          have r0 : P.row = [] := by rw [hP]
          have pm0 : pm = 0 := by rw [← SD.out.2.2.1, r0]; rfl
          have hb : BSA wr PB pd [] := by rw [← r0]; exact SD.out.2.2.2.2.2
          subst kd0 pm0
          have HX : Hid (Calls Tryd.prog 29 #[.pointer none] wr fun e w' => e = .returned (.tuple #[.pointer none, .pointer none, .bool false]) ∧ wr = w') := hid halves_nil
          have HL : Hid (Calls Tryd.prog 33 #[.pointer none] wr fun e w' => e = .returned (.tuple #[.string ⟨#[]⟩, .slice none 0 0, .bool false]) ∧ wr = w') := hid (leafOf_none (t := .nil) rfl WY.out.1)
          have HBy := hid (bytes_same (n := 0) rfl hb (BSA.nil wr))
          clear hnil hE hE' hP r0 hb WY
          go_wp2_with fail
          refine HX.out.mono ?_
          rintro e w7 ⟨rfl, rfl⟩
          go_wp2_with fail
          refine HL.out.mono ?_
          rintro e w7 ⟨rfl, rfl⟩
          go_wp2_with fail
          refine HBy.out.mono ?_
          rintro e w8 ⟨rfl, b8⟩
          go_wp2
          go_ret
          exact ⟨rfl, below_then BB.out b8⟩
        | leaf y =>
          have hE' : E = .leaf y := hE.symm
          have hP0 : P = endT (walkT T 0 k1).1 (.leaf y) k1 := by
            have := EPS.out
            rw [hE'] at this
            exact this
          have hrow : P.row = y.row := by rw [hP0]; by_cases h : y.key = k1 <;> simp [endT, h]
          have hpm : pm = y.row.length := by rw [← SD.out.2.2.1, hrow]
          have HL0 := leafOf_leaf (show y.row.length ≤ 1000000 from WY.out.2.1) WY.out.1
          rw [← hpm] at HL0
          have HL := hid HL0
          have HX := hid (halves_leaf WY.out.1)
          have HB := hid (show BSA wr PB pd y.row by rw [← hrow]; exact SD.out.2.2.2.2.2)
          have HPM := hid hpm.symm
          obtain ⟨yk, hyk⟩ : ∃ yk, yk = y.key := ⟨_, rfl⟩
          rw [← hyk] at HL
          by_cases hk : yk = k1
          · have tk : (yk.toList == k1.toList) = true := by rw [hk]; simp
            have kd1 : kd = 1 := by rw [← KD.out.1, hP0]; rw [hyk] at hk; simp [endT, hk]
            subst kd1
            clear hnil hE hE' hP0 hrow hpm HL0 hyk hk WY
            go_wp2_with fail
            refine HX.out.mono ?_
            rintro e w7 ⟨rfl, rfl⟩
            clear v0
            go_wp2_with fail
            refine HL.out.mono ?_
            rintro e w8 ⟨A8, c8, rfl, r8, b8⟩
            clear v1 v2 v3
            obtain ⟨-, v1, -, v3, -, -, -, -⟩ := four (SD.out.below b8).1
            have HBy := hid (bytes_same HPM.out (HB.out.below b8) r8.bsa)
            have B8 := hid (below_then BB.out b8)
            clear r8 b8 HL HX
            go_wp2_with fail
            refine HBy.out.mono ?_
            rintro e w9 ⟨rfl, b9⟩
            go_wp2
            go_ret
            exact ⟨rfl, below_then B8.out b9⟩
          · have tk : (yk.toList == k1.toList) = false := by rw [str_beq]; simp [hk]
            have kd1 : kd = 2 := by rw [← KD.out.1, hP0]; rw [hyk] at hk; simp [endT, hk]
            subst kd1
            clear hnil hE hE' hP0 hrow hpm HL0 hyk hk WY
            go_wp2_with fail
            refine HX.out.mono ?_
            rintro e w7 ⟨rfl, rfl⟩
            clear v0
            go_wp2_with fail
            refine HL.out.mono ?_
            rintro e w8 ⟨A8, c8, rfl, r8, b8⟩
            clear v1 v2 v3
            obtain ⟨-, v1, -, v3, -, -, -, -⟩ := four (SD.out.below b8).1
            have HBy := hid (bytes_same HPM.out (HB.out.below b8) r8.bsa)
            have B8 := hid (below_then BB.out b8)
            clear r8 b8 HL HX
            go_wp2_with fail
            refine HBy.out.mono ?_
            rintro e w9 ⟨rfl, b9⟩
            go_wp2
            go_ret
            exact ⟨rfl, below_then B8.out b9⟩
  · have hd : decide (SmallL l) = false := by simp [hsm]
    have HD := hid hd
    clear hsm hd
    go_enter Tryd.func10, Tryd.ntmps10
    have HC1 := hid (bare_any TT.out)
    go_wp2_with fail
    refine HC1.out.mono ?_
    rintro e w1 ⟨rfl, b1⟩
    clear HC1
    replace TT := hid (TT.out.below b1)
    replace AA := hid (AA.out.below b1)
    replace BB := hid (below_then BB.out b1)
    clear b1
    have S0 := small_any HN.out AA.out HC.out.1 HC.out.2
    rw [HD.out] at S0
    have S1 := hid S0
    clear S0
    go_wp2_with fail
    refine S1.out.mono ?_
    rintro e w2 ⟨rfl, rfl⟩
    clear S1
    have HC2 := hid (bare_any TT.out)
    go_wp2_with fail
    refine HC2.out.mono ?_
    rintro e w3 ⟨rfl, b3⟩
    clear HC2
    replace BB := hid (below_then BB.out b3)
    clear b3
    go_wp2
    go_ret
    exact ⟨rfl, BB.out⟩
end Go.Proofs.YtmbgfjcmdolggaaDoor
