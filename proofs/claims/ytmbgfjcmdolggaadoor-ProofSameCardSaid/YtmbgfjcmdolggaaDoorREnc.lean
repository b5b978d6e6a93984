/- The walks of the reference's blob and Encode. -/
import Derived.Test.YtmbgfjcmdolggaaDoorEncB
set_option linter.unusedVariables false
set_option linter.unusedSimpArgs false
namespace Go.Proofs.YtmbgfjcmdolggaaDoor
open Go.RowKit PrintLast

/-- What a call leaves that makes bytes; their number under a name. -/
def GaveN (w : World) (L : List UInt8) (e : Ending) (w' : World) : Prop := ∃ A' c' N, Hid (N = L.length) ∧ e = .returned (.slice A' N c') ∧ Row w' w.heap.size A' c' L ∧ Below w.heap.size w w'
theorem Gave.n {w w' : World} {L : List UInt8} {e : Ending} (h : Gave w L e w') : GaveN w L e w' := by
  obtain ⟨A', c', rfl, h1, h2⟩ := h
  exact ⟨A', c', L.length, hid rfl, rfl, h1, h2⟩
theorem GaveN.back {w w' : World} {L : List UInt8} {e : Ending} (h : GaveN w L e w') : Gave w L e w' := by
  obtain ⟨A', c', N, hN, rfl, h1, h2⟩ := h
  exact ⟨A', c', by rw [← hN.out], h1, h2⟩
theorem num_two {w : World} {n : Nat} : Calls Tryd.prog 43 #[.int .u64 (n : Int), .int .i64 2] w fun e w' => ∃ A c, e = .returned (.slice A 2 c) ∧ Row w' w.heap.size A c (numBytes n 2) ∧ Below w.heap.size w w' := by
  refine (num_any (n := n) (m := 2) (by omega)).mono ?_
  rintro e w' ⟨A, c, rfl, h1, _, h2⟩
  exact ⟨A, c, rfl, h1, h2⟩

set_option maxHeartbeats 1600000 in
theorem rblob_any {w : World} {A B : Option Addr} {c d n m : Nat} {x y : List UInt8} (hn : x.length = n) (hm : y.length = m) (hx : BSA w A c x) (hy : BSA w B d y) (h1 : n ≤ 1000000000) (h2 : m ≤ 1000000000) :
    Calls Tryd.prog 44 #[.slice A n c, .slice B m d] w (GaveN w (x ++ textS y)) := by
  have aN : (m : Int) % 18446744073709551616 = (m : Int) := by omega
  have H := hid (num_two (w := w) (n := m))
  obtain ⟨X, hX⟩ : ∃ X, X = x ++ numBytes m 2 := ⟨_, rfl⟩
  obtain ⟨Y, hY⟩ : ∃ Y, Y = x ++ textS y := ⟨_, rfl⟩
  have hXY : X ++ y = Y := by rw [hX, hY]; unfold textS; rw [hm]; simp
  have lX : X.length = n + 2 := by rw [hX, List.length_append, numBytes_length, hn]
  have lY : Y.length = n + 2 + m := by rw [← hXY, List.length_append, lX, hm]
  have HL := hid (And.intro lX lY)
  have HX := hid (And.intro hX hXY)
  have HN := hid (And.intro hn hm)
  have HB := hid (And.intro hx hy)
  rw [← hY]
  clear hX hY hXY lX lY hn hm hx hy
  go_enter Tryd.func44, Tryd.ntmps44
  go_wp2_with fail
  refine H.out.mono ?_
  rintro e w1 ⟨A1, c1, rfl, r1, b1⟩
  have H := hid (join_gave HN.out.1 (numBytes_length m 2) HX.out.1.symm (HB.out.1.below b1) r1.bsa (by rw [HL.out.1]; omega))
  go_wp2_with fail
  refine H.out.mono ?_
  rintro e w2 ⟨A2, c2, rfl, r2, b2⟩
  have bb2 := below_then b1 b2
  have H := hid (join_gave rfl HN.out.2 HX.out.2 r2.bsa (HB.out.2.below bb2) (by rw [HL.out.2]; omega))
  clear r1 b1 b2 r2
  go_wp2_with fail
  refine H.out.mono ?_
  rintro e w3 ⟨A3, c3, rfl, r3, b3⟩
  have bb3 := below_then bb2 b3
  have sz := bb2.size
  go_wp2
  go_ret
  exact ⟨A3, c3, _, hid rfl, rfl, r3.lower sz, bb3⟩

set_option maxRecDepth 100000 in
set_option maxHeartbeats 6400000 in
theorem renc_any {w : World} {A B : Option Addr} {c d k m : Nat} {p : Prf} (hk : p.side.length = k) (hm : p.row.length = m) (hA : TxtAt w A p.side) (hB : BSA w B d p.row) (hp : Holds p) :
    Calls Tryd.prog 20 #[.agg #[.slice A k c, .int .u8 (p.kind.toNat : Int), .string p.key, .slice B m d]] w (Gave w (encB p)) := by
  obtain ⟨hp1, hp2, hp3, hp4⟩ := hp
  rw [hk] at hp1
  rw [hm] at hp4
  have aN : (k : Int) % 18446744073709551616 = (k : Int) := by omega
  obtain ⟨S, hS⟩ : ∃ S, S = w.heap.size := ⟨_, rfl⟩
  have al := below_alloc (Below.refl _ w) (.cells #[.slice A k c, .int .u8 (p.kind.toNat : Int), .string p.key, .slice B m d] 36)
  have gb := heap_alloc_new w (.cells #[.slice A k c, .int .u8 (p.kind.toNat : Int), .string p.key, .slice B m d] 36)
  have sz : S + 1 ≤ (w.alloc (.cells #[.slice A k c, .int .u8 (p.kind.toNat : Int), .string p.key, .slice B m d] 36)).heap.size := by rw [hS]; simp
  rw [← hS] at gb al
  have HS := hid hS
  have HA := hid hA
  have HB := hid hB
  have HK := hid (And.intro hk hm)
  have HP2 := hid hp2
  obtain ⟨kv, hkv⟩ : ∃ kv, kv = p.kind := ⟨_, rfl⟩
  obtain ⟨key, hkey⟩ : ∃ key, key = p.key := ⟨_, rfl⟩
  rw [← hkv, ← hkey] at gb al sz ⊢
  rw [← hkey] at hp3
  have HE := hid (And.intro hkv hkey)
  clear hS hA hB hk hm hp2 hkv hkey
  go_enter Tryd.func20, Tryd.ntmps20
  go_upto_region 1 with fail
  rw [← HS.out]
  generalize w.alloc (.cells #[.slice A k c, .int .u8 (kv.toNat : Int), .string key, .slice B m d] 36) = W at *
  obtain ⟨v0, v1, v2, v3, -, -, -, -⟩ := four gb
  have H := hid (num_two (w := W) (n := k))
  go_wp2_with fail
  refine H.out.mono ?_
  rintro x w1 ⟨R1, c1, rfl, r1, b1⟩
  have gb1 := (b1.block S (by omega)).trans gb
  obtain ⟨nb, hnb⟩ : ∃ nb, nb = numBytes k 2 := ⟨_, rfl⟩
  rw [← hnb] at r1
  have LB : Hid (nb.length = 2) := hid (by rw [hnb, numBytes_length])
  have NB := hid hnb
  have r1' : Row w1 (S + 1) R1 c1 (nb ++ sidesS (p.side.take 0)) := by
    have : nb ++ sidesS (p.side.take 0) = nb := by simp [sidesS]
    rw [this]
    exact r1.lower sz
  have P0 : Hid (2 = (nb ++ sidesS (p.side.take 0)).length) := hid (by simp [sidesS, LB.out])
  have hAw := al.trans (b1.mono (show S ≤ W.heap.size by omega))
  clear hnb r1 v0 v1 v2 v3 gb al sz H b1
  obtain ⟨v0, v1, v2, v3, -, -, -, -⟩ := four gb1
  go_wp2
  go_loopw [3, 4] (fun v i wr => ∃ (j N c' : Nat) (R : Option Addr), j ≤ k ∧ i = .int .i64 j ∧ v = .slice R N c' ∧ Hid (N = (nb ++ sidesS (p.side.take j)).length) ∧ Row wr (S + 1) R c' (nb ++ sidesS (p.side.take j)) ∧ wr.heap[S]? = some (.cells #[.slice A k c, .int .u8 (kv.toNat : Int), .string key, .slice B m d] 36 (0, 0)) ∧ Below S w wr) (fun _ i _ => k - (intOf i).toNat)
  case atStart => exact ⟨0, 2, c1, R1, Nat.zero_le _, rfl, rfl, P0, r1', gb1, hAw⟩
  case round =>
    clear P0 r1' gb1 hAw v0 v1 v2 v3
    obtain ⟨j, N, c', R, hj, rfl, rfl, hN, hR, gb, hB⟩ := hrel
    have sz : S + 1 ≤ wr.heap.size := by have := lt_of_block gb; omega
    obtain ⟨v0, v1, v2, v3, -, -, -, -⟩ := four gb
    by_cases hlt : j < k
    · have t1 : decide ((j : Int) < (k : Int)) = true := by simp; omega
      have hjs : j < p.side.length := by rw [HK.out.1]; exact hlt
      obtain ⟨g, o, rfl, cs⟩ := (HA.out.below (show Below w.heap.size w wr by rw [← HS.out]; exact hB)).at_ j hjs
      have NX := hid (sidesS_take p.side j hjs)
      have LE := hid (sidesS_one p.side j hjs)
      obtain ⟨s, hs⟩ : ∃ s, s = p.side[j] := ⟨_, rfl⟩
      rw [← hs] at cs NX LE
      clear hs
      go_wp2_with (refine wpList_appS rfl (.tmp 17) (.tmp 22) rfl (S + 1) sz R c' (nb ++ sidesS (p.side.take j)) (by rw [← hN.out]; rfl) hR s rfl (by have := LE.out; have := HP2.out; have := LB.out; rw [List.length_append]; omega) (N + s.size) (by rw [← hN.out]) ?_)
      intro R2 c2 w2 m1 m2
      have hN' : Hid (N + s.size = (nb ++ sidesS (p.side.take (j + 1))).length) := hid (by rw [NX.out, ← List.append_assoc, List.length_append, ← hN.out, bsz])
      first | rw [List.append_assoc, ← NX.out] at m1 | rw [← NX.out] at m1
      have gb2 := (m2.block S (by omega)).trans gb
      have hB2 := hB.trans (m2.mono (Nat.le_succ S))
      clear hR gb hB cs NX LE hN m2 sz v0 v1 v2 v3
      go_wp2
      go_roundw
      case rel => exact ⟨j + 1, N + s.size, c2, R2, hlt, by go_num, by go_num, hN', m1, gb2, hB2⟩
      case measure => simp [intOf]; omega
    · obtain rfl : j = k := by omega
      have t1 : decide ((j : Int) < (j : Int)) = false := by simp
      obtain ⟨X, hX⟩ : ∃ X, X = nb ++ sidesS p.side := ⟨_, rfl⟩
      have e1 : p.side.take j = p.side := List.take_of_length_le (Nat.le_of_eq HK.out.1)
      rw [e1, ← hX] at hR hN
      have XB : Hid (X = numBytes p.side.length 2 ++ sidesS p.side) := hid (by rw [hX, NB.out, HK.out.1])
      have XL : N ≤ 100000002 := by rw [hN.out, hX, List.length_append, LB.out]; have := HP2.out; omega
      have al := (Below.refl (S + 1) wr).alloc sz (.cells #[.int .u8 (kv.toNat : Int)] 5)
      have q0 := lit_bsa wr kv
      have hR' := hR.below (below_alloc (Below.refl _ wr) (.cells #[.int .u8 (kv.toNat : Int)] 5))
      have HG := hid gb
      have sz' := Nat.le_trans sz al.size
      clear e1 hX hR hlt LB NB
      go_wp2_with (refine wpList_appO rfl (.tmp 24) (.tmp 27) rfl (S + 1) sz' R c' X (by rw [← hN.out]; rfl) hR' _ 1 [kv] rfl q0 (by rw [← hN.out]; simp; omega) (N + 1) (by rw [← hN.out]; rfl) ?_)
      intro R2 c2 w2 r2 m2
      have gb2 := ((al.trans m2).block S (by omega)).trans HG.out
      have hB2 := hB.trans ((al.trans m2).mono (Nat.le_succ S))
      obtain ⟨Y, hY⟩ : ∃ Y, Y = X ++ [kv] := ⟨_, rfl⟩
      have YL : Hid (Y.length = N + 1) := hid (by rw [hY, List.length_append, ← hN.out]; rfl)
      rw [← hY] at r2
      have YB : Hid (Y = numBytes p.side.length 2 ++ sidesS p.side ++ [kv]) := hid (by rw [hY, XB.out])
      have sz2 : S + 1 ≤ w2.heap.size := by have := lt_of_block gb2; omega
      clear hR' q0 al m2 HG gb hB sz sz' hY v0 v1 v2 v3 hN XB
      obtain ⟨v0, v1, v2, v3, -, -, -, -⟩ := four gb2
      have EK := HE.out
      by_cases hk2 : kv = 2
      · have t6 : ((kv.toNat : Int) == 2) = true := by rw [hk2]; rfl
        have t7 : ((kv.toNat : Int) == 1) = false := by rw [hk2]; rfl
        have PK : Hid (p.kind = 2) := hid (by rw [← EK.1]; exact hk2)
        clear hk2 EK
        have ks : key.size ≤ maxLen := by unfold maxLen; omega
        go_wp2_with (refine wpList_conv rfl (.tmp 34) rfl key rfl ks ?_)
        intro g3 c3 w3 _ q3 b3
        have r2b := r2.below b3
        have gb3 := below_heap b3 gb2
        have hB3 := hB2.trans (b3.mono (by omega))
        have H := hid (rblob_any YL.out (bsz key) r2b.bsa q3 (by omega) (by omega))
        go_wp2_with fail
        refine H.out.mono ?_
        rintro e w4 ⟨R4, c4, N4, hN4, rfl, r4, b4⟩
        obtain ⟨Y2, hY2⟩ : ∃ Y2, Y2 = Y ++ textS key.data.toList := ⟨_, rfl⟩
        rw [← hY2] at r4 hN4
        have Y2L : Hid (Y2.length = N4) := hid hN4.out.symm
        have sz3 : S + 1 ≤ w3.heap.size := by have := lt_of_block gb3; omega
        have NL : N4 ≤ 200000000 := by rw [hN4.out, hY2, List.length_append, textS_length, bsz]; have := YL.out; omega
        have Y2B := hid hY2
        have gb4 := below_heap b4 gb3
        have hB4 := hB3.trans (b4.mono (by omega))
        have r4' : Row w4 (S + 1) R4 c4 Y2 := r4.lower sz3
        clear r2 hB2 gb2 sz2 v0 v1 v2 v3 r2b gb3 hB3 H q3 b3 b4 r4 hY2 hN4 sz3 ks
        have sz2 : S + 1 ≤ w4.heap.size := by have := lt_of_block gb4; omega
        obtain ⟨v0, v1, v2, v3, -, -, -, -⟩ := four gb4
        have gb2 := gb4
        have hB2 := hB4
        have r2 := r4'
        clear gb4 hB4 r4'
        have H := hid (rblob_any Y2L.out HK.out.2 r2.bsa (HB.out.below (show Below w.heap.size w w4 by rw [← HS.out]; exact hB2)) (by omega) (by omega))
        go_wp2_with fail
        refine H.out.mono ?_
        rintro e w8 ⟨R8, c8, N8, hN8, rfl, r8, b8⟩
        have FIN : Hid (Y2 ++ textS p.row = encB p) := hid (by rw [Y2B.out, YB.out]; unfold encB endS; rw [if_pos PK.out, if_pos (.inr PK.out), HE.out.1, HE.out.2]; simp)
        rw [FIN.out] at r8 hN8
        have B8 := hB2.trans (b8.mono (by omega))
        have R8' : Row w8 S R8 c8 (encB p) := r8.lower (by omega)
        clear r8 b8 r2 hB2 gb2 v0 v1 v2 v3 H
        go_wp2
        go_ret
        exact ⟨R8, c8, by rw [← hN8.out]; rfl, by rw [← HS.out]; exact R8', by rw [← HS.out]; exact B8⟩
      · have t6 : ((kv.toNat : Int) == 2) = false := by
          rw [beq_eq_false_iff_ne]
          intro e
          have h3 : kv.toNat = 2 := by omega
          exact hk2 (UInt8.toNat_inj.1 (by simpa using h3))
        have PK : Hid (p.kind ≠ 2) := hid (by rw [← EK.1]; exact hk2)
        by_cases hk1 : kv = 1
        · have t7 : ((kv.toNat : Int) == 1) = true := by rw [hk1]; rfl
          have PK1 : Hid (p.kind = 1) := hid (by rw [← EK.1]; exact hk1)
          clear hk1 hk2 EK
          have H := hid (rblob_any YL.out HK.out.2 r2.bsa (HB.out.below (show Below w.heap.size w w2 by rw [← HS.out]; exact hB2)) (by omega) (by omega))
          go_wp2_with fail
          refine H.out.mono ?_
          rintro e w8 ⟨R8, c8, N8, hN8, rfl, r8, b8⟩
          have FIN : Hid (Y ++ textS p.row = encB p) := hid (by rw [YB.out]; unfold encB endS; rw [if_neg PK.out, if_pos (.inl PK1.out), HE.out.1]; simp)
          rw [FIN.out] at r8 hN8
          have B8 := hB2.trans (b8.mono (by omega))
          have R8' : Row w8 S R8 c8 (encB p) := r8.lower (by omega)
          clear r8 b8 r2 hB2 gb2 v0 v1 v2 v3 H
          go_wp2
          go_ret
          exact ⟨R8, c8, by rw [← hN8.out]; rfl, by rw [← HS.out]; exact R8', by rw [← HS.out]; exact B8⟩
        · have t7 : ((kv.toNat : Int) == 1) = false := by
            rw [beq_eq_false_iff_ne]
            intro e
            have h3 : kv.toNat = 1 := by omega
            exact hk1 (UInt8.toNat_inj.1 (by simpa using h3))
          have PK1 : Hid (p.kind ≠ 1) := hid (by rw [← EK.1]; exact hk1)
          have FIN : Hid (Y = encB p) := hid (by rw [YB.out]; unfold encB endS; rw [if_neg PK.out, if_neg (by intro e; rcases e with e | e; exact PK1.out e; exact PK.out e), HE.out.1]; simp)
          rw [FIN.out] at r2 YL
          clear hk1 hk2 EK gb2 v0 v2 v3
          go_wp2
          go_ret
          exact ⟨R2, c2, by rw [YL.out]; rfl, by rw [← HS.out]; exact r2.lower (Nat.le_succ S), by rw [← HS.out]; exact hB2⟩
end Go.Proofs.YtmbgfjcmdolggaaDoor
