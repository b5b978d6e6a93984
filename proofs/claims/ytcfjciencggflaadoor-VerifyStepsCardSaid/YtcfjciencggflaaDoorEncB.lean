/- The walk of the program's Encode. -/
import Derived.Test.YtcfjciencggflaaDoorEnc
set_option linter.unusedVariables false
set_option linter.unusedSimpArgs false
namespace Go.Proofs.YtcfjciencggflaaDoor
open Go.RowKit PrintLast

theorem sidesS_take (l : List ByteArray) (k : Nat) (h : k < l.length) : sidesS (l.take (k + 1)) = sidesS (l.take k) ++ l[k].data.toList := by
  unfold sidesS
  rw [List.take_succ_eq_append_getElem h, List.flatMap_append]
  simp
theorem sidesS_le (l : List ByteArray) (k : Nat) : (sidesS (l.take k)).length ≤ (sidesS l).length := by
  have : sidesS l = sidesS (l.take k) ++ sidesS (l.drop k) := by
    unfold sidesS
    rw [← List.flatMap_append, List.take_append_drop]
  rw [this, List.length_append]
  omega
/-- A proof that is not too large to be laid. -/
def Holds (p : Prf) : Prop := p.side.length ≤ 1000000 ∧ (sidesS p.side).length ≤ 100000000 ∧ p.key.size ≤ 1000000 ∧ p.row.length ≤ 1000000
theorem sidesS_one (l : List ByteArray) (k : Nat) (h : k < l.length) : (sidesS (l.take k)).length + l[k].size ≤ (sidesS l).length := by
  have h1 := sidesS_le l (k + 1)
  rw [sidesS_take l k h, List.length_append] at h1
  have : l[k].data.toList.length = l[k].size := by simp
  omega

set_option maxRecDepth 100000 in
set_option maxHeartbeats 6400000 in
theorem enc_any {w : World} {A B : Option Addr} {c d k m : Nat} {p : Prf} (hk : p.side.length = k) (hm : p.row.length = m) (hA : TxtAt w A p.side) (hB : BSA w B d p.row) (hp : Holds p) :
    Calls Tryd.prog 43 #[.agg #[.slice A k c, .int .u8 (p.kind.toNat : Int), .string p.key, .slice B m d]] w (Gave w (encB p)) := by
  obtain ⟨hp1, hp2, hp3, hp4⟩ := hp
  rw [hk] at hp1
  rw [hm] at hp4
  obtain ⟨S, hS⟩ : ∃ S, S = w.heap.size := ⟨_, rfl⟩
  have al := below_alloc (Below.refl _ w) (.cells #[.slice A k c, .int .u8 (p.kind.toNat : Int), .string p.key, .slice B m d] 52)
  have gb := heap_alloc_new w (.cells #[.slice A k c, .int .u8 (p.kind.toNat : Int), .string p.key, .slice B m d] 52)
  have sz : S + 1 ≤ (w.alloc (.cells #[.slice A k c, .int .u8 (p.kind.toNat : Int), .string p.key, .slice B m d] 52)).heap.size := by rw [hS]; simp
  rw [← hS] at gb al
  have HS := hid hS
  have HA := hid hA
  have HB := hid hB
  have HK := hid (And.intro hk hm)
  have HP2 := hid hp2
  obtain ⟨kv, hkv⟩ : ∃ kv, kv = p.kind := ⟨_, rfl⟩
  obtain ⟨key, hkey⟩ : ∃ key, key = p.key := ⟨_, rfl⟩
  rw [← hkv, ← hkey] at gb al sz ⊢
  rw [← hkey] at hp3
  have HE := hid (And.intro hkv hkey)
  clear hS hA hB hk hm hp2 hkv hkey
  go_enter Tryd.func43, Tryd.ntmps43
  go_upto_region 1 with fail
  rw [← HS.out]
  generalize w.alloc (.cells #[.slice A k c, .int .u8 (kv.toNat : Int), .string key, .slice B m d] 52) = W at *
  obtain ⟨v0, v1, v2, v3, -, -, -, -⟩ := four gb
  have H := hid (put_count (n := k) (N := 0) (l := []) rfl (Row.nil W (S + 1)) sz (by omega) (by omega))
  go_wp2_with fail
  refine H.out.mono ?_
  rintro x w1 ⟨R1, c1, N1, hN1, rfl, r1, b1⟩
  have gb1 := (b1.block S (by omega)).trans gb
  obtain rfl : N1 = 2 := by rw [hN1.out, List.nil_append, numBytes_length]
  obtain ⟨nb, hnb⟩ : ∃ nb, nb = numBytes k 2 := ⟨_, rfl⟩
  rw [List.nil_append, ← hnb] at r1
  have LB : Hid (nb.length = 2) := hid (by rw [hnb, numBytes_length])
  have NB := hid hnb
  have r1' : Row w1 (S + 1) R1 c1 (nb ++ sidesS (p.side.take 0)) := by simpa [sidesS] using r1
  have P0 : Hid (2 = (nb ++ sidesS (p.side.take 0)).length) := hid (by simp [sidesS, LB.out])
  have hAw := al.trans (b1.mono (Nat.le_succ S))
  clear hN1 hnb r1 v0 v1 v2 v3 gb al sz H b1
  obtain ⟨v0, v1, v2, v3, -, -, -, -⟩ := four gb1
  go_wp2
  go_loopw [3, 13] (fun v i wr => ∃ (j N c' : Nat) (R : Option Addr), j ≤ k ∧ i = .int .i64 j ∧ v = .slice R N c' ∧ Hid (N = (nb ++ sidesS (p.side.take j)).length) ∧ Row wr (S + 1) R c' (nb ++ sidesS (p.side.take j)) ∧ wr.heap[S]? = some (.cells #[.slice A k c, .int .u8 (kv.toNat : Int), .string key, .slice B m d] 52 (0, 0)) ∧ Below S w wr) (fun _ i _ => k - (intOf i).toNat)
  case atStart => exact ⟨0, 2, c1, R1, Nat.zero_le _, rfl, rfl, P0, r1', gb1, hAw⟩
  case round =>
    clear P0 r1' gb1 hAw v0 v1 v2 v3
    obtain ⟨j, N, c', R, hj, rfl, rfl, hN, hR, gb, hB⟩ := hrel
    have sz : S + 1 ≤ wr.heap.size := by have := lt_of_block gb; omega
    by_cases hlt : j < k
    · have t1 : decide ((j : Int) < (k : Int)) = true := by simp; omega
      have hjs : j < p.side.length := by rw [HK.out.1]; exact hlt
      obtain ⟨g, o, rfl, cs⟩ := (HA.out.below (show Below w.heap.size w wr by rw [← HS.out]; exact hB)).at_ j hjs
      have NX := hid (sidesS_take p.side j hjs)
      have LE := hid (sidesS_one p.side j hjs)
      obtain ⟨s, hs⟩ : ∃ s, s = p.side[j] := ⟨_, rfl⟩
      rw [← hs] at cs NX LE
      clear hs
      go_wp2_with (refine wpList_appS rfl (.tmp 17) (.tmp 18) rfl (S + 1) sz R c' (nb ++ sidesS (p.side.take j)) (by rw [← hN.out]; rfl) hR s rfl (by have := LE.out; have := HP2.out; have := LB.out; rw [List.length_append]; omega) (N + s.size) (by rw [← hN.out]) ?_)
      intro R2 c2 w2 m1 m2
      have hN' : Hid (N + s.size = (nb ++ sidesS (p.side.take (j + 1))).length) := hid (by rw [NX.out, ← List.append_assoc, List.length_append, ← hN.out, bsz])
      first | rw [List.append_assoc, ← NX.out] at m1 | rw [← NX.out] at m1
      have gb2 := (m2.block S (by omega)).trans gb
      have hB2 := hB.trans (m2.mono (Nat.le_succ S))
      clear hR gb hB cs NX LE hN m2 sz
      go_wp2
      go_roundw
      case rel => exact ⟨j + 1, N + s.size, c2, R2, hlt, by go_num, by go_num, hN', m1, gb2, hB2⟩
      case measure => simp [intOf]; omega
    · obtain rfl : j = k := by omega
      have t1 : decide ((j : Int) < (j : Int)) = false := by simp
      obtain ⟨X, hX⟩ : ∃ X, X = nb ++ sidesS p.side := ⟨_, rfl⟩
      have e1 : p.side.take j = p.side := List.take_of_length_le (Nat.le_of_eq HK.out.1)
      rw [e1, ← hX] at hR hN
      have XB : Hid (X = numBytes p.side.length 2 ++ sidesS p.side) := hid (by rw [hX, NB.out, HK.out.1])
      have XL : N ≤ 100000002 := by rw [hN.out, hX, List.length_append, LB.out]; have := HP2.out; omega
      obtain ⟨v0, v1, v2, v3, -, -, -, -⟩ := four gb
      have al := (Below.refl (S + 1) wr).alloc sz (.cells #[.int .u8 (kv.toNat : Int)] 5)
      have q0 := lit_bsa wr kv
      have hR' := hR.below (below_alloc (Below.refl _ wr) (.cells #[.int .u8 (kv.toNat : Int)] 5))
      have HG := hid gb
      have sz' := Nat.le_trans sz al.size
      clear e1 hX hR hlt LB NB
      go_wp2_with (refine wpList_appO rfl (.tmp 21) (.tmp 24) rfl (S + 1) sz' R c' X (by rw [← hN.out]; rfl) hR' _ 1 [kv] rfl q0 (by rw [← hN.out]; simp; omega) (N + 1) (by rw [← hN.out]; rfl) ?_)
      intro R2 c2 w2 r2 m2
      have gb2 := ((al.trans m2).block S (by omega)).trans HG.out
      have hB2 := hB.trans ((al.trans m2).mono (Nat.le_succ S))
      have YL : Hid ((X ++ [kv]).length = N + 1) := hid (by rw [List.length_append, ← hN.out]; rfl)
      obtain ⟨Y, hY⟩ : ∃ Y, Y = X ++ [kv] := ⟨_, rfl⟩
      rw [← hY] at r2 YL
      have YB : Hid (Y = numBytes p.side.length 2 ++ sidesS p.side ++ [kv]) := hid (by rw [hY, XB.out])
      have sz2 : S + 1 ≤ w2.heap.size := by have := lt_of_block gb2; omega
      clear hR' q0 al m2 HG gb hB sz sz' hY v0 v1 v2 v3 hN XB
      obtain ⟨v0, v1, v2, v3, -, -, -, -⟩ := four gb2
      have EK := HE.out
      by_cases hk2 : kv = 2
      · have t6 : ((kv.toNat : Int) == 2) = true := by rw [hk2]; rfl
        have PK : Hid (p.kind = 2) := hid (by rw [← EK.1]; exact hk2)
        clear hk2 EK
        have HC := hid (fun (w' : World) (h : Row w' (S + 1) R2 c2 Y) (hs : S + 1 ≤ w'.heap.size) => put_count (n := key.size) YL.out h hs (by omega) (by omega))
        have sBd : S + 1 ≤ w2.drew.heap.size := sz2
        have r2d : Row w2.drew (S + 1) R2 c2 Y := r2
        go_wp2
        refine start_ (n := 9) (S := fun w' => w'.cell? ⟨S, 2, none⟩ = some (.string key)) (ds := []) #[false, false, false, false, false, false, false, false, false] (by kernel_rfl) rfl rfl (v2) (fun hHeld => ?_)
        refine pure_ (i := 0) (N := some 32) (v := ?_) (a' := ?_) #[true, false, false, false, false, false, false, false, false] rfl rfl (by kernel_rfl) (fun _ _ _ h => h) (Or.inl ⟨by rfl, ?_⟩) ?_ ?_
        rotate_left
        · intro w'
          go_simp
          with_reducible rfl
        rotate_left
        · simp only [Act.put, List.setIfInBounds_toArray, List.set_cons_zero, List.set_cons_succ, i64_w, i32_w]
          rfl
        refine pure_ (i := 1) (N := some 33) (v := ?_) (a' := ?_) #[true, true, false, false, false, false, false, false, false] rfl rfl (by kernel_rfl) (fun _ _ _ h => h) (Or.inl ⟨by rfl, ?_⟩) ?_ ?_
        rotate_left
        · intro w'
          go_simp
          with_reducible rfl
        rotate_left
        · simp only [Act.put, List.setIfInBounds_toArray, List.set_cons_zero, List.set_cons_succ, i64_w, i32_w]
          rfl
        refine pure_ (i := 5) (N := some 37) (v := ?_) (a' := ?_) #[true, true, false, false, false, true, false, false, false] rfl rfl (by kernel_rfl) (fun _ _ _ h => h) (Or.inl ⟨by rfl, ?_⟩) ?_ ?_
        rotate_left
        · intro w'
          go_simp
          with_reducible rfl
        rotate_left
        · simp only [Act.put, List.setIfInBounds_toArray, List.set_cons_zero, List.set_cons_succ, i64_w, i32_w]
          rfl
        refine take_ (i := 2) (N := some 34) (v := ?_) (a' := ?_) #[true, true, true, false, false, true, false, false, false] rfl rfl (by kernel_rfl) (fun _ _ _ h => h) (Or.inl ⟨by rfl, ?_⟩) hHeld ?_ ?_
        rotate_left
        · intro w' s0
          go_simp
          with_reducible rfl
        rotate_left
        · simp only [Act.put, List.setIfInBounds_toArray, List.set_cons_zero, List.set_cons_succ, i64_w, i32_w]
          rfl
        refine pure_ (i := 3) (N := some 35) (v := ?_) (a' := ?_) #[true, true, true, true, false, true, false, false, false] rfl rfl (by kernel_rfl) (fun _ _ _ h => h) (Or.inl ⟨by rfl, ?_⟩) ?_ ?_
        rotate_left
        · intro w'
          go_simp
          with_reducible rfl
        rotate_left
        · simp only [Act.put, List.setIfInBounds_toArray, List.set_cons_zero, List.set_cons_succ, i64_w, i32_w]
          rfl
        refine take_ (i := 6) (N := some 38) (v := ?_) (a' := ?_) #[true, true, true, true, false, true, true, false, false] rfl rfl (by kernel_rfl) (fun _ _ _ h => h) (Or.inl ⟨by rfl, ?_⟩) hHeld ?_ ?_
        rotate_left
        · intro w' s0
          go_simp
          with_reducible rfl
        rotate_left
        · simp only [Act.put, List.setIfInBounds_toArray, List.set_cons_zero, List.set_cons_succ, i64_w, i32_w]
          rfl
        refine one_ (i := 4) (N := some 36) #[true, true, true, true, true, true, true, false, false] rfl rfl (by kernel_rfl) (by decide) (fun K hK => ?_)
        refine goes_ Tryd.func65 (by kernel_rfl) rfl #[.slice R2 (N + 1) c2, .int .i64 (key.size : Int)] (by rfl) rfl rfl (by simp only [List.map_toArray, List.map_cons, List.map_nil]; rfl) ?_
        with_reducible refine ((HC.out _ r2d sBd)).mono ?_
        rintro e' w5 ⟨R5, c5, N5, hN5, rfl, r5, b5⟩
        refine ⟨_, rfl, ?_⟩
        have g5 := (b5.block S (by omega)).trans (show w2.drew.heap[S]? = _ from gb2)
        have B5 : Below S w w5 := hB2.drew.trans (b5.mono (Nat.le_succ S))
        have s5 : S + 1 ≤ w5.heap.size := by have := lt_of_block g5; omega
        refine hK.out _ _ ((cell_at g5 rfl)) (fun hHeld => ?_)
        clear hK K
        refine norm_ (a' := ?_) ?_ ?_
        rotate_left
        · show Act.put _ (some 36) _ = _
          simp only [Act.put, List.setIfInBounds_toArray, List.set_cons_zero, List.set_cons_succ, i64_w, i32_w]
          rfl
        refine one_ (i := 7) (N := some 39) #[true, true, true, true, true, true, true, true, false] rfl rfl (by kernel_rfl) (by decide) (fun K hK => ?_)
        refine step_appS rfl (.tmp 36) (.tmp 38) rfl (S + 1) s5 R5 c5 N5 (Y ++ numBytes key.size 2) rfl hN5.out.symm r5 key rfl (by rw [hN5.out, List.length_append, numBytes_length]; have := YL.out; omega) ?_
        intro R6 c6 w6 r6 b6
        have g6 := (b6.block S (by omega)).trans g5
        have B6 := B5.trans (b6.mono (Nat.le_succ S))
        refine hK.out _ _ ((cell_at g6 rfl)) (fun hHeld => ?_)
        clear hK K
        refine norm_ (a' := ?_) ?_ ?_
        rotate_left
        · show Act.put _ (some 39) _ = _
          simp only [Act.put, List.setIfInBounds_toArray, List.set_cons_zero, List.set_cons_succ, i64_w, i32_w]
          rfl
        refine pure_ (i := 8) (N := some 3) (v := ?_) (a' := ?_) #[true, true, true, true, true, true, true, true, true] rfl rfl (by kernel_rfl) (fun _ _ _ h => h) (Or.inl ⟨by rfl, ?_⟩) ?_ ?_
        rotate_left
        · intro w'
          go_simp
          with_reducible rfl
        rotate_left
        · simp only [Act.put, List.setIfInBounds_toArray, List.set_cons_zero, List.set_cons_succ, i64_w, i32_w]
          rfl
        refine done_ (by kernel_rfl) ?_
        obtain ⟨N2, hN2⟩ : ∃ N2, N2 = N5 + key.size := ⟨_, rfl⟩
        obtain ⟨Y2, hY2⟩ : ∃ Y2, Y2 = Y ++ numBytes key.size 2 ++ key.data.toList := ⟨_, rfl⟩
        rw [← hN2]
        rw [← hY2] at r6
        have YL2 : Hid (Y2.length = N2) := hid (by rw [hY2, hN2, hN5.out, List.length_append, bsz])
        have NL2 : N2 ≤ 200000000 := by rw [hN2, hN5.out, List.length_append, numBytes_length]; have := YL.out; omega
        have YB2 : Hid (Y2 = Y ++ textS key.data.toList) := hid (by rw [hY2]; unfold textS; rw [bsz, List.append_assoc])
        clear gb2 hB2 r2 v0 v1 v2 v3 b5 b6 r5 g5 B5 HC hN2 hY2 sBd r2d sz2 hN5
        have sz2 : S + 1 ≤ w6.heap.size := by have := lt_of_block g6; omega
        obtain ⟨v0, v1, v2, v3, -, -, -, -⟩ := four g6
        have gb2 := g6
        have hB2 := B6
        have r2 := r6
        clear g6 B6 r6
        have HC := hid (fun (w' : World) (h : Row w' (S + 1) R6 c6 Y2) (hs : S + 1 ≤ w'.heap.size) => put_count (n := m) YL2.out h hs (by omega) (by omega))
        have sBd : S + 1 ≤ w6.drew.heap.size := sz2
        have r2d : Row w6.drew (S + 1) R6 c6 Y2 := r2
        go_wp2
        refine start_ (n := 9) (S := fun w' => w'.cell? ⟨S, 3, none⟩ = some (.slice B m d)) (ds := []) #[false, false, false, false, false, false, false, false, false] (by kernel_rfl) rfl rfl (v3) (fun hHeld => ?_)
        refine pure_ (i := 0) (N := some 40) (v := ?_) (a' := ?_) #[true, false, false, false, false, false, false, false, false] rfl rfl (by kernel_rfl) (fun _ _ _ h => h) (Or.inl ⟨by rfl, ?_⟩) ?_ ?_
        rotate_left
        · intro w'
          go_simp
          with_reducible rfl
        rotate_left
        · simp only [Act.put, List.setIfInBounds_toArray, List.set_cons_zero, List.set_cons_succ, i64_w, i32_w]
          rfl
        refine pure_ (i := 1) (N := some 41) (v := ?_) (a' := ?_) #[true, true, false, false, false, false, false, false, false] rfl rfl (by kernel_rfl) (fun _ _ _ h => h) (Or.inl ⟨by rfl, ?_⟩) ?_ ?_
        rotate_left
        · intro w'
          go_simp
          with_reducible rfl
        rotate_left
        · simp only [Act.put, List.setIfInBounds_toArray, List.set_cons_zero, List.set_cons_succ, i64_w, i32_w]
          rfl
        refine pure_ (i := 5) (N := some 45) (v := ?_) (a' := ?_) #[true, true, false, false, false, true, false, false, false] rfl rfl (by kernel_rfl) (fun _ _ _ h => h) (Or.inl ⟨by rfl, ?_⟩) ?_ ?_
        rotate_left
        · intro w'
          go_simp
          with_reducible rfl
        rotate_left
        · simp only [Act.put, List.setIfInBounds_toArray, List.set_cons_zero, List.set_cons_succ, i64_w, i32_w]
          rfl
        refine take_ (i := 2) (N := some 42) (v := ?_) (a' := ?_) #[true, true, true, false, false, true, false, false, false] rfl rfl (by kernel_rfl) (fun _ _ _ h => h) (Or.inl ⟨by rfl, ?_⟩) hHeld ?_ ?_
        rotate_left
        · intro w' s0
          go_simp
          with_reducible rfl
        rotate_left
        · simp only [Act.put, List.setIfInBounds_toArray, List.set_cons_zero, List.set_cons_succ, i64_w, i32_w]
          rfl
        refine pure_ (i := 3) (N := some 43) (v := ?_) (a' := ?_) #[true, true, true, true, false, true, false, false, false] rfl rfl (by kernel_rfl) (fun _ _ _ h => h) (Or.inl ⟨by rfl, ?_⟩) ?_ ?_
        rotate_left
        · intro w'
          go_simp
          with_reducible rfl
        rotate_left
        · simp only [Act.put, List.setIfInBounds_toArray, List.set_cons_zero, List.set_cons_succ, i64_w, i32_w]
          rfl
        refine take_ (i := 6) (N := some 46) (v := ?_) (a' := ?_) #[true, true, true, true, false, true, true, false, false] rfl rfl (by kernel_rfl) (fun _ _ _ h => h) (Or.inl ⟨by rfl, ?_⟩) hHeld ?_ ?_
        rotate_left
        · intro w' s0
          go_simp
          with_reducible rfl
        rotate_left
        · simp only [Act.put, List.setIfInBounds_toArray, List.set_cons_zero, List.set_cons_succ, i64_w, i32_w]
          rfl
        refine one_ (i := 4) (N := some 44) #[true, true, true, true, true, true, true, false, false] rfl rfl (by kernel_rfl) (by decide) (fun K hK => ?_)
        refine goes_ Tryd.func65 (by kernel_rfl) rfl #[.slice R6 N2 c6, .int .i64 (m : Int)] (by rfl) rfl rfl (by simp only [List.map_toArray, List.map_cons, List.map_nil]; rfl) ?_
        with_reducible refine ((HC.out _ r2d sBd)).mono ?_
        rintro e' w7 ⟨R7, c7, N7, hN7, rfl, r7, b7⟩
        refine ⟨_, rfl, ?_⟩
        have g7 := (b7.block S (by omega)).trans (show w6.drew.heap[S]? = _ from gb2)
        have B7 : Below S w w7 := hB2.drew.trans (b7.mono (Nat.le_succ S))
        have hb7 := HB.out.below (show Below w.heap.size w w7 by rw [← HS.out]; exact B7)
        have s7 : S + 1 ≤ w7.heap.size := by have := lt_of_block g7; omega
        refine hK.out _ _ ((cell_at g7 rfl)) (fun hHeld => ?_)
        clear hK K
        refine norm_ (a' := ?_) ?_ ?_
        rotate_left
        · show Act.put _ (some 44) _ = _
          simp only [Act.put, List.setIfInBounds_toArray, List.set_cons_zero, List.set_cons_succ, i64_w, i32_w]
          rfl
        refine one_ (i := 7) (N := some 47) #[true, true, true, true, true, true, true, true, false] rfl rfl (by kernel_rfl) (by decide) (fun K hK => ?_)
        refine step_appO rfl (.tmp 44) (.tmp 46) rfl (S + 1) s7 R7 c7 N7 (Y2 ++ numBytes m 2) rfl hN7.out.symm r7 B d m p.row rfl HK.out.2 hb7 (by rw [hN7.out, List.length_append, numBytes_length]; have := YL2.out; omega) ?_
        intro R8 c8 w8 r8 b8
        have g8 := (b8.block S (by omega)).trans g7
        have B8 := B7.trans (b8.mono (Nat.le_succ S))
        refine hK.out _ _ ((cell_at g8 rfl)) (fun hHeld => ?_)
        clear hK K
        refine norm_ (a' := ?_) ?_ ?_
        rotate_left
        · show Act.put _ (some 47) _ = _
          simp only [Act.put, List.setIfInBounds_toArray, List.set_cons_zero, List.set_cons_succ, i64_w, i32_w]
          rfl
        refine pure_ (i := 8) (N := some 3) (v := ?_) (a' := ?_) #[true, true, true, true, true, true, true, true, true] rfl rfl (by kernel_rfl) (fun _ _ _ h => h) (Or.inl ⟨by rfl, ?_⟩) ?_ ?_
        rotate_left
        · intro w'
          go_simp
          with_reducible rfl
        rotate_left
        · simp only [Act.put, List.setIfInBounds_toArray, List.set_cons_zero, List.set_cons_succ, i64_w, i32_w]
          rfl
        refine done_ (by kernel_rfl) ?_
        have FIN : Hid (Y2 ++ numBytes m 2 ++ p.row = encB p) := hid (by rw [YB2.out, YB.out]; unfold encB endS; rw [if_pos PK.out, if_pos (.inr PK.out), HE.out.1, HE.out.2]; unfold textS; rw [HK.out.2]; simp)
        have FL : Hid (N7 + m = (encB p).length) := hid (by rw [← FIN.out, hN7.out]; simp [HK.out.2, Nat.add_assoc])
        rw [FIN.out] at r8
        clear gb2 hB2 r2 v0 v1 v2 v3 g8 g7 hb7 b7 b8 r7 HC r2d sBd
        go_wp2
        go_ret
        exact ⟨R8, c8, by rw [← FL.out]; rfl, by rw [← HS.out]; exact r8.lower (Nat.le_succ S), by rw [← HS.out]; exact B8⟩
      · have t6 : ((kv.toNat : Int) == 2) = false := by
          rw [beq_eq_false_iff_ne]
          intro e
          have h3 : kv.toNat = 2 := by omega
          exact hk2 (UInt8.toNat_inj.1 (by simpa using h3))
        have PK : Hid (p.kind ≠ 2) := hid (by rw [← EK.1]; exact hk2)
        by_cases hk1 : kv = 1
        · have t7 : ((kv.toNat : Int) == 1) = true := by rw [hk1]; rfl
          have PK1 : Hid (p.kind = 1) := hid (by rw [← EK.1]; exact hk1)
          clear hk1 hk2 EK
          have HC := hid (fun (w' : World) (h : Row w' (S + 1) R2 c2 Y) (hs : S + 1 ≤ w'.heap.size) => put_count (n := m) YL.out h hs (by omega) (by omega))
          have sBd : S + 1 ≤ w2.drew.heap.size := sz2
          have r2d : Row w2.drew (S + 1) R2 c2 Y := r2
          go_wp2
          refine start_ (n := 9) (S := fun w' => w'.cell? ⟨S, 3, none⟩ = some (.slice B m d)) (ds := []) #[false, false, false, false, false, false, false, false, false] (by kernel_rfl) rfl rfl (v3) (fun hHeld => ?_)
          refine pure_ (i := 0) (N := some 40) (v := ?_) (a' := ?_) #[true, false, false, false, false, false, false, false, false] rfl rfl (by kernel_rfl) (fun _ _ _ h => h) (Or.inl ⟨by rfl, ?_⟩) ?_ ?_
          rotate_left
          · intro w'
            go_simp
            with_reducible rfl
          rotate_left
          · simp only [Act.put, List.setIfInBounds_toArray, List.set_cons_zero, List.set_cons_succ, i64_w, i32_w]
            rfl
          refine pure_ (i := 1) (N := some 41) (v := ?_) (a' := ?_) #[true, true, false, false, false, false, false, false, false] rfl rfl (by kernel_rfl) (fun _ _ _ h => h) (Or.inl ⟨by rfl, ?_⟩) ?_ ?_
          rotate_left
          · intro w'
            go_simp
            with_reducible rfl
          rotate_left
          · simp only [Act.put, List.setIfInBounds_toArray, List.set_cons_zero, List.set_cons_succ, i64_w, i32_w]
            rfl
          refine pure_ (i := 5) (N := some 45) (v := ?_) (a' := ?_) #[true, true, false, false, false, true, false, false, false] rfl rfl (by kernel_rfl) (fun _ _ _ h => h) (Or.inl ⟨by rfl, ?_⟩) ?_ ?_
          rotate_left
          · intro w'
            go_simp
            with_reducible rfl
          rotate_left
          · simp only [Act.put, List.setIfInBounds_toArray, List.set_cons_zero, List.set_cons_succ, i64_w, i32_w]
            rfl
          refine take_ (i := 2) (N := some 42) (v := ?_) (a' := ?_) #[true, true, true, false, false, true, false, false, false] rfl rfl (by kernel_rfl) (fun _ _ _ h => h) (Or.inl ⟨by rfl, ?_⟩) hHeld ?_ ?_
          rotate_left
          · intro w' s0
            go_simp
            with_reducible rfl
          rotate_left
          · simp only [Act.put, List.setIfInBounds_toArray, List.set_cons_zero, List.set_cons_succ, i64_w, i32_w]
            rfl
          refine pure_ (i := 3) (N := some 43) (v := ?_) (a' := ?_) #[true, true, true, true, false, true, false, false, false] rfl rfl (by kernel_rfl) (fun _ _ _ h => h) (Or.inl ⟨by rfl, ?_⟩) ?_ ?_
          rotate_left
          · intro w'
            go_simp
            with_reducible rfl
          rotate_left
          · simp only [Act.put, List.setIfInBounds_toArray, List.set_cons_zero, List.set_cons_succ, i64_w, i32_w]
            rfl
          refine take_ (i := 6) (N := some 46) (v := ?_) (a' := ?_) #[true, true, true, true, false, true, true, false, false] rfl rfl (by kernel_rfl) (fun _ _ _ h => h) (Or.inl ⟨by rfl, ?_⟩) hHeld ?_ ?_
          rotate_left
          · intro w' s0
            go_simp
            with_reducible rfl
          rotate_left
          · simp only [Act.put, List.setIfInBounds_toArray, List.set_cons_zero, List.set_cons_succ, i64_w, i32_w]
            rfl
          refine one_ (i := 4) (N := some 44) #[true, true, true, true, true, true, true, false, false] rfl rfl (by kernel_rfl) (by decide) (fun K hK => ?_)
          refine goes_ Tryd.func65 (by kernel_rfl) rfl #[.slice R2 (N + 1) c2, .int .i64 (m : Int)] (by rfl) rfl rfl (by simp only [List.map_toArray, List.map_cons, List.map_nil]; rfl) ?_
          with_reducible refine ((HC.out _ r2d sBd)).mono ?_
          rintro e' w7 ⟨R7, c7, N7, hN7, rfl, r7, b7⟩
          refine ⟨_, rfl, ?_⟩
          have g7 := (b7.block S (by omega)).trans (show w2.drew.heap[S]? = _ from gb2)
          have B7 : Below S w w7 := hB2.drew.trans (b7.mono (Nat.le_succ S))
          have hb7 := HB.out.below (show Below w.heap.size w w7 by rw [← HS.out]; exact B7)
          have s7 : S + 1 ≤ w7.heap.size := by have := lt_of_block g7; omega
          refine hK.out _ _ ((cell_at g7 rfl)) (fun hHeld => ?_)
          clear hK K
          refine norm_ (a' := ?_) ?_ ?_
          rotate_left
          · show Act.put _ (some 44) _ = _
            simp only [Act.put, List.setIfInBounds_toArray, List.set_cons_zero, List.set_cons_succ, i64_w, i32_w]
            rfl
          refine one_ (i := 7) (N := some 47) #[true, true, true, true, true, true, true, true, false] rfl rfl (by kernel_rfl) (by decide) (fun K hK => ?_)
          refine step_appO rfl (.tmp 44) (.tmp 46) rfl (S + 1) s7 R7 c7 N7 (Y ++ numBytes m 2) rfl hN7.out.symm r7 B d m p.row rfl HK.out.2 hb7 (by rw [hN7.out, List.length_append, numBytes_length]; have := YL.out; omega) ?_
          intro R8 c8 w8 r8 b8
          have g8 := (b8.block S (by omega)).trans g7
          have B8 := B7.trans (b8.mono (Nat.le_succ S))
          refine hK.out _ _ ((cell_at g8 rfl)) (fun hHeld => ?_)
          clear hK K
          refine norm_ (a' := ?_) ?_ ?_
          rotate_left
          · show Act.put _ (some 47) _ = _
            simp only [Act.put, List.setIfInBounds_toArray, List.set_cons_zero, List.set_cons_succ, i64_w, i32_w]
            rfl
          refine pure_ (i := 8) (N := some 3) (v := ?_) (a' := ?_) #[true, true, true, true, true, true, true, true, true] rfl rfl (by kernel_rfl) (fun _ _ _ h => h) (Or.inl ⟨by rfl, ?_⟩) ?_ ?_
          rotate_left
          · intro w'
            go_simp
            with_reducible rfl
          rotate_left
          · simp only [Act.put, List.setIfInBounds_toArray, List.set_cons_zero, List.set_cons_succ, i64_w, i32_w]
            rfl
          refine done_ (by kernel_rfl) ?_
          have FIN : Hid (Y ++ numBytes m 2 ++ p.row = encB p) := hid (by rw [YB.out]; unfold encB endS; rw [if_neg PK.out, if_pos (.inl PK1.out), HE.out.1]; unfold textS; rw [HK.out.2]; simp)
          have FL : Hid (N7 + m = (encB p).length) := hid (by rw [← FIN.out, hN7.out]; simp [HK.out.2, Nat.add_assoc])
          rw [FIN.out] at r8
          clear gb2 hB2 r2 v0 v1 v2 v3 g8 g7 hb7 b7 b8 r7 HC r2d sBd
          go_wp2
          go_ret
          exact ⟨R8, c8, by rw [← FL.out]; rfl, by rw [← HS.out]; exact r8.lower (Nat.le_succ S), by rw [← HS.out]; exact B8⟩
        · have t7 : ((kv.toNat : Int) == 1) = false := by
            rw [beq_eq_false_iff_ne]
            intro e
            have h3 : kv.toNat = 1 := by omega
            exact hk1 (UInt8.toNat_inj.1 (by simpa using h3))
          have PK1 : Hid (p.kind ≠ 1) := hid (by rw [← EK.1]; exact hk1)
          have FIN : Hid (Y = encB p) := hid (by rw [YB.out]; unfold encB endS; rw [if_neg PK.out, if_neg (by intro e; rcases e with e | e; exact PK1.out e; exact PK.out e), HE.out.1]; simp)
          rw [FIN.out] at r2 YL
          clear hk1 hk2 EK gb2 v0 v2 v3
          go_wp2
          go_ret
          exact ⟨R2, c2, by rw [YL.out]; rfl, by rw [← HS.out]; exact r2.lower (Nat.le_succ S), by rw [← HS.out]; exact hB2⟩
end Go.Proofs.YtcfjciencggflaaDoor
