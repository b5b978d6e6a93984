import Derived.Test.YtmbgfjcmdolggaaDoorME
set_option linter.unusedVariables false
set_option linter.unusedSimpArgs false
/- The walks of the program's Encode. -/
namespace Go.Proofs.YtmbgfjcmdolggaaDoor
open Go.RowKit PrintLast

section
variable {w : World} {ops : Array Oper} {o : Oper} {a : Act} {K : Act → World → Prop} {Q : Exit → Act → World → Prop} {E : Prop}
/-- 'append' of a text's bytes, in a region of open order. -/
theorem step_appS (hgd : o.guard = none) (s x : Operand)
    (ho : o.op = .call { callee := .builtin .append, args := #[s, x], argTypes := #[23, 9] }) (B : Nat) (hB : B ≤ w.heap.size)
    (R : Option Addr) (c N : Nat) (l : List UInt8) (hs : a.eval s = .slice R N c) (hN : l.length = N) (hR : Row w B R c l) (q : ByteArray) (hx : a.eval x = .string q)
    (h47 : N + q.size ≤ 140737488355328)
    (h : ∀ R' c' w', Row w' B R' c' (l ++ q.data.toList) → Below B w w' → K (a.put o.dst (.slice R' (N + q.size) c')) w') :
    if Region.wanted o (yielded ops a.tmps) = true then Oper.wp Tryd.prog o a w K Q else E := by
  subst hN
  have hw : Region.wanted o (yielded ops a.tmps) = true := by simp [Region.wanted, hgd]
  rw [if_pos hw]
  obtain ⟨i0, hi, hz0, hz1, hz2⟩ := info_parts infU8'
  obtain ⟨v', w', hrun, k1, k2, _⟩ := Lib.run_append_own_string (P := Tryd.prog) w B 23 9 o.type 5 i0 Tryd.underlying23 Tryd.underlying9 hi hz0 hz1 hz2 _ l.length (bytesV l) hR q (by unfold maxLen; omega) h47 hB
  have e1 : bytesV l ++ Lib.strCells q = bytesV (l ++ q.data.toList) := by rw [bytesV_append]; rfl
  rw [e1] at k1
  have hform : ∃ A' c', v' = .slice A' (l.length + q.size) c' := by
    rcases k1.2 with ⟨e, h0⟩ | ⟨g', cap', cur', e', _⟩
    · rw [e, h0]; exact ⟨_, _, rfl⟩
    · exact ⟨_, _, e'⟩
  obtain ⟨A', c', rfl⟩ := hform
  have fin := h A' c' w' (by unfold Row; rw [List.length_append, bsz]; exact k1) ((Below.refl B w).grown k2 hB (fun k hk => (hR.lt k hk).1))
  unfold Oper.wp
  simp [execOp, ho, resolve, invoke, builtin, hs, hx, hrun, Result.andThen]
  exact fin
/-- 'append' of bytes that are read, or none, in a region of open order. -/
theorem step_appO (hgd : o.guard = none) (s x : Operand)
    (ho : o.op = .call { callee := .builtin .append, args := #[s, x], argTypes := #[23, 23] }) (B : Nat) (hB : B ≤ w.heap.size)
    (R : Option Addr) (c N : Nat) (l : List UInt8) (hs : a.eval s = .slice R N c) (hN : l.length = N) (hR : Row w B R c l) (A : Option Addr) (c2 m : Nat) (q : List UInt8) (hx : a.eval x = .slice A m c2) (hm : q.length = m) (hb : BSA w A c2 q)
    (h47 : N + m ≤ 140737488355328)
    (h : ∀ R' c' w', Row w' B R' c' (l ++ q) → Below B w w' → K (a.put o.dst (.slice R' (N + m) c')) w') :
    if Region.wanted o (yielded ops a.tmps) = true then Oper.wp Tryd.prog o a w K Q else E := by
  subst hN hm
  refine step_app8 23 5 Tryd.underlying23 infU8' hgd s x ho _ l hs (hR.lower (Nat.zero_le _)) A c2 q hx hb h47 ?_
  intro A' c' w' k1 k2 k3 _
  have hfr : ∀ k, (Value.slice R l.length c).ownBlock = some k → B ≤ k := fun k hk => (hR.lt k hk).1
  refine h A' c' w' (Row.raise (by simpa using k1) (by simp) (fun k hk => ?_)) ((Below.refl B w).grown k2 hB hfr)
  rcases k3 with e | e
  · rw [e] at hk; exact hfr k hk
  · rw [e] at hk; simp at hk; omega
end

/-- What count leaves that puts a number's two bytes behind bytes. -/
def Onto (w : World) (B : Nat) (L : List UInt8) (x : Ending) (w' : World) : Prop := ∃ R' c' N, Hid (N = L.length) ∧ x = .returned (.slice R' N c') ∧ Row w' B R' c' L ∧ Below B w w'
set_option maxHeartbeats 1600000 in
theorem put_count {w : World} {B c N n : Nat} {R : Option Addr} {l : List UInt8} (hN : l.length = N) (hR : Row w B R c l) (hB : B ≤ w.heap.size) (hn : n ≤ 1000000000) (hl : N ≤ 1000000000000) :
    Calls Tryd.prog 34 #[.slice R N c, .int .i64 (n : Int)] w (Onto w B (l ++ numBytes n 2)) := by
  have nb : numBytes n 2 = [UInt8.ofNat (n / 256), UInt8.ofNat (n / 1)] := rfl
  have f1 : ((n : Int) / 256) % 256 = ((UInt8.ofNat (n / 256)).toNat : Int) := byte_div n 8
  have f0 : (n : Int) % 256 = ((UInt8.ofNat (n / 1)).toNat : Int) := by simp
  obtain ⟨x1, h1⟩ : ∃ x, x = UInt8.ofNat (n / 256) := ⟨_, rfl⟩
  obtain ⟨x0, h0⟩ : ∃ x, x = UInt8.ofNat (n / 1) := ⟨_, rfl⟩
  rw [← h1, ← h0] at nb
  rw [← h1] at f1
  rw [← h0] at f0
  rw [nb]
  have al := (Below.refl B w).alloc hB (.cells (bytesV [x1, x0]).toArray 5)
  have q0 := lits_bsa w [x1, x0] (by simp)
  have r0 := hR.below (below_alloc (Below.refl _ w) (.cells (bytesV [x1, x0]).toArray 5))
  have HN := hid hN
  have sz : B ≤ (w.alloc (.cells (bytesV [x1, x0]).toArray 5)).heap.size := Nat.le_trans hB al.size
  clear h1 h0 nb hN hR
  go_enter Tryd.func34, Tryd.ntmps34
  go_wp2_with (refine wpList_appO rfl (.tmp 5) (.tmp 11) rfl B sz R c l (by rw [HN.out]; rfl) r0 _ 2 [x1, x0] rfl q0 (by rw [HN.out]; simp; omega) (N + 2) (by rw [HN.out]; rfl) ?_)
  intro R' c' w' k1 k2
  have al2 := al.trans k2
  go_wp2
  go_ret
  exact ⟨R', c', N + 2, hid (by rw [List.length_append, HN.out]; rfl), rfl, k1, al2⟩
end Go.Proofs.YtmbgfjcmdolggaaDoor

/- The walk of the program's Encode. -/
namespace Go.Proofs.YtmbgfjcmdolggaaDoor
open Go.RowKit PrintLast

theorem sidesS_take (l : List ByteArray) (k : Nat) (h : k < l.length) : sidesS (l.take (k + 1)) = sidesS (l.take k) ++ l[k].data.toList := by
  unfold sidesS
  rw [List.take_succ_eq_append_getElem h, List.flatMap_append]
  simp
theorem sidesS_le (l : List ByteArray) (k : Nat) : (sidesS (l.take k)).length ≤ (sidesS l).length := by
  have : sidesS l = sidesS (l.take k) ++ sidesS (l.drop k) := by
    unfold sidesS
    rw [← List.flatMap_append, List.take_append_drop]
  rw [this, List.length_append]
  omega
/-- A proof that is not too large to be laid. -/
def Holds (p : Prf) : Prop := p.side.length ≤ 1000000 ∧ (sidesS p.side).length ≤ 100000000 ∧ p.key.size ≤ 1000000 ∧ p.row.length ≤ 1000000
theorem sidesS_one (l : List ByteArray) (k : Nat) (h : k < l.length) : (sidesS (l.take k)).length + l[k].size ≤ (sidesS l).length := by
  have h1 := sidesS_le l (k + 1)
  rw [sidesS_take l k h, List.length_append] at h1
  have : l[k].data.toList.length = l[k].size := by simp
  omega

set_option maxRecDepth 100000 in
set_option maxHeartbeats 6400000 in
theorem enc_any {w : World} {A B : Option Addr} {c d k m : Nat} {p : Prf} (hk : p.side.length = k) (hm : p.row.length = m) (hA : TxtAt w A p.side) (hB : BSA w B d p.row) (hp : Holds p) :
    Calls Tryd.prog 14 #[.agg #[.slice A k c, .int .u8 (p.kind.toNat : Int), .string p.key, .slice B m d]] w (Gave w (encB p)) := by
  obtain ⟨hp1, hp2, hp3, hp4⟩ := hp
  rw [hk] at hp1
  rw [hm] at hp4
  obtain ⟨S, hS⟩ : ∃ S, S = w.heap.size := ⟨_, rfl⟩
  have al := below_alloc (Below.refl _ w) (.cells #[.slice A k c, .int .u8 (p.kind.toNat : Int), .string p.key, .slice B m d] 30)
  have gb := heap_alloc_new w (.cells #[.slice A k c, .int .u8 (p.kind.toNat : Int), .string p.key, .slice B m d] 30)
  have sz : S + 1 ≤ (w.alloc (.cells #[.slice A k c, .int .u8 (p.kind.toNat : Int), .string p.key, .slice B m d] 30)).heap.size := by rw [hS]; simp
  rw [← hS] at gb al
  have HS := hid hS
  have HA := hid hA
  have HB := hid hB
  have HK := hid (And.intro hk hm)
  have HP2 := hid hp2
  obtain ⟨kv, hkv⟩ : ∃ kv, kv = p.kind := ⟨_, rfl⟩
  obtain ⟨key, hkey⟩ : ∃ key, key = p.key := ⟨_, rfl⟩
  rw [← hkv, ← hkey] at gb al sz ⊢
  rw [← hkey] at hp3
  have HE := hid (And.intro hkv hkey)
  clear hS hA hB hk hm hp2 hkv hkey
  go_enter Tryd.func14, Tryd.ntmps14
  go_upto_region 1 with fail
  rw [← HS.out]
  generalize w.alloc (.cells #[.slice A k c, .int .u8 (kv.toNat : Int), .string key, .slice B m d] 30) = W at *
  obtain ⟨v0, v1, v2, v3, -, -, -, -⟩ := four gb
  have H := hid (put_count (n := k) (N := 0) (l := []) rfl (Row.nil W (S + 1)) sz (by omega) (by omega))
  go_wp2_with fail
  refine H.out.mono ?_
  rintro x w1 ⟨R1, c1, N1, hN1, rfl, r1, b1⟩
  have gb1 := (b1.block S (by omega)).trans gb
  obtain rfl : N1 = 2 := by rw [hN1.out, List.nil_append, numBytes_length]
  obtain ⟨nb, hnb⟩ : ∃ nb, nb = numBytes k 2 := ⟨_, rfl⟩
  rw [List.nil_append, ← hnb] at r1
  have LB : Hid (nb.length = 2) := hid (by rw [hnb, numBytes_length])
  have NB := hid hnb
  have r1' : Row w1 (S + 1) R1 c1 (nb ++ sidesS (p.side.take 0)) := by simpa [sidesS] using r1
  have P0 : Hid (2 = (nb ++ sidesS (p.side.take 0)).length) := hid (by simp [sidesS, LB.out])
  have hAw := al.trans (b1.mono (Nat.le_succ S))
  clear hN1 hnb r1 v0 v1 v2 v3 gb al sz H b1
  obtain ⟨v0, v1, v2, v3, -, -, -, -⟩ := four gb1
  go_wp2
  go_loopw [3, 13] (fun v i wr => ∃ (j N c' : Nat) (R : Option Addr), j ≤ k ∧ i = .int .i64 j ∧ v = .slice R N c' ∧ Hid (N = (nb ++ sidesS (p.side.take j)).length) ∧ Row wr (S + 1) R c' (nb ++ sidesS (p.side.take j)) ∧ wr.heap[S]? = some (.cells #[.slice A k c, .int .u8 (kv.toNat : Int), .string key, .slice B m d] 30 (0, 0)) ∧ Below S w wr) (fun _ i _ => k - (intOf i).toNat)
  case atStart => exact ⟨0, 2, c1, R1, Nat.zero_le _, rfl, rfl, P0, r1', gb1, hAw⟩
  case round =>
    clear P0 r1' gb1 hAw v0 v1 v2 v3
    obtain ⟨j, N, c', R, hj, rfl, rfl, hN, hR, gb, hB⟩ := hrel
    have sz : S + 1 ≤ wr.heap.size := by have := lt_of_block gb; omega
    by_cases hlt : j < k
    · have t1 : decide ((j : Int) < (k : Int)) = true := by simp; omega
      have hjs : j < p.side.length := by rw [HK.out.1]; exact hlt
      obtain ⟨g, o, rfl, cs⟩ := (HA.out.below (show Below w.heap.size w wr by rw [← HS.out]; exact hB)).at_ j hjs
      have NX := hid (sidesS_take p.side j hjs)
      have LE := hid (sidesS_one p.side j hjs)
      obtain ⟨s, hs⟩ : ∃ s, s = p.side[j] := ⟨_, rfl⟩
      rw [← hs] at cs NX LE
      clear hs
      go_wp2_with (refine wpList_appS rfl (.tmp 17) (.tmp 18) rfl (S + 1) sz R c' (nb ++ sidesS (p.side.take j)) (by rw [← hN.out]; rfl) hR s rfl (by have := LE.out; have := HP2.out; have := LB.out; rw [List.length_append]; omega) (N + s.size) (by rw [← hN.out]) ?_)
      intro R2 c2 w2 m1 m2
      have hN' : Hid (N + s.size = (nb ++ sidesS (p.side.take (j + 1))).length) := hid (by rw [NX.out, ← List.append_assoc, List.length_append, ← hN.out, bsz])
      first | rw [List.append_assoc, ← NX.out] at m1 | rw [← NX.out] at m1
      have gb2 := (m2.block S (by omega)).trans gb
      have hB2 := hB.trans (m2.mono (Nat.le_succ S))
      clear hR gb hB cs NX LE hN m2 sz
      go_wp2
      go_roundw
      case rel => exact ⟨j + 1, N + s.size, c2, R2, hlt, by go_num, by go_num, hN', m1, gb2, hB2⟩
      case measure => simp [intOf]; omega
    · obtain rfl : j = k := by omega
      have t1 : decide ((j : Int) < (j : Int)) = false := by simp
      obtain ⟨X, hX⟩ : ∃ X, X = nb ++ sidesS p.side := ⟨_, rfl⟩
      have e1 : p.side.take j = p.side := List.take_of_length_le (Nat.le_of_eq HK.out.1)
      rw [e1, ← hX] at hR hN
      have XB : Hid (X = numBytes p.side.length 2 ++ sidesS p.side) := hid (by rw [hX, NB.out, HK.out.1])
      have XL : N ≤ 100000002 := by rw [hN.out, hX, List.length_append, LB.out]; have := HP2.out; omega
      obtain ⟨v0, v1, v2, v3, -, -, -, -⟩ := four gb
      have al := (Below.refl (S + 1) wr).alloc sz (.cells #[.int .u8 (kv.toNat : Int)] 5)
      have q0 := lit_bsa wr kv
      have hR' := hR.below (below_alloc (Below.refl _ wr) (.cells #[.int .u8 (kv.toNat : Int)] 5))
      have HG := hid gb
      have sz' := Nat.le_trans sz al.size
      clear e1 hX hR hlt LB NB
      go_wp2_with (refine wpList_appO rfl (.tmp 21) (.tmp 24) rfl (S + 1) sz' R c' X (by rw [← hN.out]; rfl) hR' _ 1 [kv] rfl q0 (by rw [← hN.out]; simp; omega) (N + 1) (by rw [← hN.out]; rfl) ?_)
      intro R2 c2 w2 r2 m2
      have gb2 := ((al.trans m2).block S (by omega)).trans HG.out
      have hB2 := hB.trans ((al.trans m2).mono (Nat.le_succ S))
      have YL : Hid ((X ++ [kv]).length = N + 1) := hid (by rw [List.length_append, ← hN.out]; rfl)
      obtain ⟨Y, hY⟩ : ∃ Y, Y = X ++ [kv] := ⟨_, rfl⟩
      rw [← hY] at r2 YL
      have YB : Hid (Y = numBytes p.side.length 2 ++ sidesS p.side ++ [kv]) := hid (by rw [hY, XB.out])
      have sz2 : S + 1 ≤ w2.heap.size := by have := lt_of_block gb2; omega
      clear hR' q0 al m2 HG gb hB sz sz' hY v0 v1 v2 v3 hN XB
      obtain ⟨v0, v1, v2, v3, -, -, -, -⟩ := four gb2
      have EK := HE.out
      by_cases hk2 : kv = 2
      · have t6 : ((kv.toNat : Int) == 2) = true := by rw [hk2]; rfl
        have PK : Hid (p.kind = 2) := hid (by rw [← EK.1]; exact hk2)
        clear hk2 EK
        have HC := hid (fun (w' : World) (h : Row w' (S + 1) R2 c2 Y) (hs : S + 1 ≤ w'.heap.size) => put_count (n := key.size) YL.out h hs (by omega) (by omega))
        have sBd : S + 1 ≤ w2.drew.heap.size := sz2
        have r2d : Row w2.drew (S + 1) R2 c2 Y := r2
        go_wp2
        refine start_ (n := 9) (S := fun w' => w'.cell? ⟨S, 2, none⟩ = some (.string key)) (ds := []) #[false, false, false, false, false, false, false, false, false] (by kernel_rfl) rfl rfl (v2) (fun hHeld => ?_)
        refine pure_ (i := 0) (N := some 32) (v := ?_) (a' := ?_) #[true, false, false, false, false, false, false, false, false] rfl rfl (by kernel_rfl) (fun _ _ _ h => h) (Or.inl ⟨by rfl, ?_⟩) ?_ ?_
        rotate_left
        · intro w'
          go_simp
          with_reducible rfl
        rotate_left
        · simp only [Act.put, List.setIfInBounds_toArray, List.set_cons_zero, List.set_cons_succ, i64_w, i32_w]
          rfl
        refine pure_ (i := 1) (N := some 33) (v := ?_) (a' := ?_) #[true, true, false, false, false, false, false, false, false] rfl rfl (by kernel_rfl) (fun _ _ _ h => h) (Or.inl ⟨by rfl, ?_⟩) ?_ ?_
        rotate_left
        · intro w'
          go_simp
          with_reducible rfl
        rotate_left
        · simp only [Act.put, List.setIfInBounds_toArray, List.set_cons_zero, List.set_cons_succ, i64_w, i32_w]
          rfl
        refine pure_ (i := 5) (N := some 37) (v := ?_) (a' := ?_) #[true, true, false, false, false, true, false, false, false] rfl rfl (by kernel_rfl) (fun _ _ _ h => h) (Or.inl ⟨by rfl, ?_⟩) ?_ ?_
        rotate_left
        · intro w'
          go_simp
          with_reducible rfl
        rotate_left
        · simp only [Act.put, List.setIfInBounds_toArray, List.set_cons_zero, List.set_cons_succ, i64_w, i32_w]
          rfl
        refine take_ (i := 2) (N := some 34) (v := ?_) (a' := ?_) #[true, true, true, false, false, true, false, false, false] rfl rfl (by kernel_rfl) (fun _ _ _ h => h) (Or.inl ⟨by rfl, ?_⟩) hHeld ?_ ?_
        rotate_left
        · intro w' s0
          go_simp
          with_reducible rfl
        rotate_left
        · simp only [Act.put, List.setIfInBounds_toArray, List.set_cons_zero, List.set_cons_succ, i64_w, i32_w]
          rfl
        refine pure_ (i := 3) (N := some 35) (v := ?_) (a' := ?_) #[true, true, true, true, false, true, false, false, false] rfl rfl (by kernel_rfl) (fun _ _ _ h => h) (Or.inl ⟨by rfl, ?_⟩) ?_ ?_
        rotate_left
        · intro w'
          go_simp
          with_reducible rfl
        rotate_left
        · simp only [Act.put, List.setIfInBounds_toArray, List.set_cons_zero, List.set_cons_succ, i64_w, i32_w]
          rfl
        refine take_ (i := 6) (N := some 38) (v := ?_) (a' := ?_) #[true, true, true, true, false, true, true, false, false] rfl rfl (by kernel_rfl) (fun _ _ _ h => h) (Or.inl ⟨by rfl, ?_⟩) hHeld ?_ ?_
        rotate_left
        · intro w' s0
          go_simp
          with_reducible rfl
        rotate_left
        · simp only [Act.put, List.setIfInBounds_toArray, List.set_cons_zero, List.set_cons_succ, i64_w, i32_w]
          rfl
        refine one_ (i := 4) (N := some 36) #[true, true, true, true, true, true, true, false, false] rfl rfl (by kernel_rfl) (by decide) (fun K hK => ?_)
        refine goes_ Tryd.func34 (by kernel_rfl) rfl #[.slice R2 (N + 1) c2, .int .i64 (key.size : Int)] (by rfl) rfl rfl (by simp only [List.map_toArray, List.map_cons, List.map_nil]; rfl) ?_
        with_reducible refine ((HC.out _ r2d sBd)).mono ?_
        rintro e' w5 ⟨R5, c5, N5, hN5, rfl, r5, b5⟩
        refine ⟨_, rfl, ?_⟩
        have g5 := (b5.block S (by omega)).trans (show w2.drew.heap[S]? = _ from gb2)
        have B5 : Below S w w5 := hB2.drew.trans (b5.mono (Nat.le_succ S))
        have s5 : S + 1 ≤ w5.heap.size := by have := lt_of_block g5; omega
        refine hK.out _ _ ((cell_at g5 rfl)) (fun hHeld => ?_)
        clear hK K
        refine norm_ (a' := ?_) ?_ ?_
        rotate_left
        · show Act.put _ (some 36) _ = _
          simp only [Act.put, List.setIfInBounds_toArray, List.set_cons_zero, List.set_cons_succ, i64_w, i32_w]
          rfl
        refine one_ (i := 7) (N := some 39) #[true, true, true, true, true, true, true, true, false] rfl rfl (by kernel_rfl) (by decide) (fun K hK => ?_)
        refine step_appS rfl (.tmp 36) (.tmp 38) rfl (S + 1) s5 R5 c5 N5 (Y ++ numBytes key.size 2) rfl hN5.out.symm r5 key rfl (by rw [hN5.out, List.length_append, numBytes_length]; have := YL.out; omega) ?_
        intro R6 c6 w6 r6 b6
        have g6 := (b6.block S (by omega)).trans g5
        have B6 := B5.trans (b6.mono (Nat.le_succ S))
        refine hK.out _ _ ((cell_at g6 rfl)) (fun hHeld => ?_)
        clear hK K
        refine norm_ (a' := ?_) ?_ ?_
        rotate_left
        · show Act.put _ (some 39) _ = _
          simp only [Act.put, List.setIfInBounds_toArray, List.set_cons_zero, List.set_cons_succ, i64_w, i32_w]
          rfl
        refine pure_ (i := 8) (N := some 3) (v := ?_) (a' := ?_) #[true, true, true, true, true, true, true, true, true] rfl rfl (by kernel_rfl) (fun _ _ _ h => h) (Or.inl ⟨by rfl, ?_⟩) ?_ ?_
        rotate_left
        · intro w'
          go_simp
          with_reducible rfl
        rotate_left
        · simp only [Act.put, List.setIfInBounds_toArray, List.set_cons_zero, List.set_cons_succ, i64_w, i32_w]
          rfl
        refine done_ (by kernel_rfl) ?_
        obtain ⟨N2, hN2⟩ : ∃ N2, N2 = N5 + key.size := ⟨_, rfl⟩
        obtain ⟨Y2, hY2⟩ : ∃ Y2, Y2 = Y ++ numBytes key.size 2 ++ key.data.toList := ⟨_, rfl⟩
        rw [← hN2]
        rw [← hY2] at r6
        have YL2 : Hid (Y2.length = N2) := hid (by rw [hY2, hN2, hN5.out, List.length_append, bsz])
        have NL2 : N2 ≤ 200000000 := by rw [hN2, hN5.out, List.length_append, numBytes_length]; have := YL.out; omega
        have YB2 : Hid (Y2 = Y ++ textS key.data.toList) := hid (by rw [hY2]; unfold textS; rw [bsz, List.append_assoc])
        clear gb2 hB2 r2 v0 v1 v2 v3 b5 b6 r5 g5 B5 HC hN2 hY2 sBd r2d sz2 hN5
        have sz2 : S + 1 ≤ w6.heap.size := by have := lt_of_block g6; omega
        obtain ⟨v0, v1, v2, v3, -, -, -, -⟩ := four g6
        have gb2 := g6
        have hB2 := B6
        have r2 := r6
        clear g6 B6 r6
        have HC := hid (fun (w' : World) (h : Row w' (S + 1) R6 c6 Y2) (hs : S + 1 ≤ w'.heap.size) => put_count (n := m) YL2.out h hs (by omega) (by omega))
        have sBd : S + 1 ≤ w6.drew.heap.size := sz2
        have r2d : Row w6.drew (S + 1) R6 c6 Y2 := r2
        go_wp2
        refine start_ (n := 9) (S := fun w' => w'.cell? ⟨S, 3, none⟩ = some (.slice B m d)) (ds := []) #[false, false, false, false, false, false, false, false, false] (by kernel_rfl) rfl rfl (v3) (fun hHeld => ?_)
        refine pure_ (i := 0) (N := some 40) (v := ?_) (a' := ?_) #[true, false, false, false, false, false, false, false, false] rfl rfl (by kernel_rfl) (fun _ _ _ h => h) (Or.inl ⟨by rfl, ?_⟩) ?_ ?_
        rotate_left
        · intro w'
          go_simp
          with_reducible rfl
        rotate_left
        · simp only [Act.put, List.setIfInBounds_toArray, List.set_cons_zero, List.set_cons_succ, i64_w, i32_w]
          rfl
        refine pure_ (i := 1) (N := some 41) (v := ?_) (a' := ?_) #[true, true, false, false, false, false, false, false, false] rfl rfl (by kernel_rfl) (fun _ _ _ h => h) (Or.inl ⟨by rfl, ?_⟩) ?_ ?_
        rotate_left
        · intro w'
          go_simp
          with_reducible rfl
        rotate_left
        · simp only [Act.put, List.setIfInBounds_toArray, List.set_cons_zero, List.set_cons_succ, i64_w, i32_w]
          rfl
        refine pure_ (i := 5) (N := some 45) (v := ?_) (a' := ?_) #[true, true, false, false, false, true, false, false, false] rfl rfl (by kernel_rfl) (fun _ _ _ h => h) (Or.inl ⟨by rfl, ?_⟩) ?_ ?_
        rotate_left
        · intro w'
          go_simp
          with_reducible rfl
        rotate_left
        · simp only [Act.put, List.setIfInBounds_toArray, List.set_cons_zero, List.set_cons_succ, i64_w, i32_w]
          rfl
        refine take_ (i := 2) (N := some 42) (v := ?_) (a' := ?_) #[true, true, true, false, false, true, false, false, false] rfl rfl (by kernel_rfl) (fun _ _ _ h => h) (Or.inl ⟨by rfl, ?_⟩) hHeld ?_ ?_
        rotate_left
        · intro w' s0
          go_simp
          with_reducible rfl
        rotate_left
        · simp only [Act.put, List.setIfInBounds_toArray, List.set_cons_zero, List.set_cons_succ, i64_w, i32_w]
          rfl
        refine pure_ (i := 3) (N := some 43) (v := ?_) (a' := ?_) #[true, true, true, true, false, true, false, false, false] rfl rfl (by kernel_rfl) (fun _ _ _ h => h) (Or.inl ⟨by rfl, ?_⟩) ?_ ?_
        rotate_left
        · intro w'
          go_simp
          with_reducible rfl
        rotate_left
        · simp only [Act.put, List.setIfInBounds_toArray, List.set_cons_zero, List.set_cons_succ, i64_w, i32_w]
          rfl
        refine take_ (i := 6) (N := some 46) (v := ?_) (a' := ?_) #[true, true, true, true, false, true, true, false, false] rfl rfl (by kernel_rfl) (fun _ _ _ h => h) (Or.inl ⟨by rfl, ?_⟩) hHeld ?_ ?_
        rotate_left
        · intro w' s0
          go_simp
          with_reducible rfl
        rotate_left
        · simp only [Act.put, List.setIfInBounds_toArray, List.set_cons_zero, List.set_cons_succ, i64_w, i32_w]
          rfl
        refine one_ (i := 4) (N := some 44) #[true, true, true, true, true, true, true, false, false] rfl rfl (by kernel_rfl) (by decide) (fun K hK => ?_)
        refine goes_ Tryd.func34 (by kernel_rfl) rfl #[.slice R6 N2 c6, .int .i64 (m : Int)] (by rfl) rfl rfl (by simp only [List.map_toArray, List.map_cons, List.map_nil]; rfl) ?_
        with_reducible refine ((HC.out _ r2d sBd)).mono ?_
        rintro e' w7 ⟨R7, c7, N7, hN7, rfl, r7, b7⟩
        refine ⟨_, rfl, ?_⟩
        have g7 := (b7.block S (by omega)).trans (show w6.drew.heap[S]? = _ from gb2)
        have B7 : Below S w w7 := hB2.drew.trans (b7.mono (Nat.le_succ S))
        have hb7 := HB.out.below (show Below w.heap.size w w7 by rw [← HS.out]; exact B7)
        have s7 : S + 1 ≤ w7.heap.size := by have := lt_of_block g7; omega
        refine hK.out _ _ ((cell_at g7 rfl)) (fun hHeld => ?_)
        clear hK K
        refine norm_ (a' := ?_) ?_ ?_
        rotate_left
        · show Act.put _ (some 44) _ = _
          simp only [Act.put, List.setIfInBounds_toArray, List.set_cons_zero, List.set_cons_succ, i64_w, i32_w]
          rfl
        refine one_ (i := 7) (N := some 47) #[true, true, true, true, true, true, true, true, false] rfl rfl (by kernel_rfl) (by decide) (fun K hK => ?_)
        refine step_appO rfl (.tmp 44) (.tmp 46) rfl (S + 1) s7 R7 c7 N7 (Y2 ++ numBytes m 2) rfl hN7.out.symm r7 B d m p.row rfl HK.out.2 hb7 (by rw [hN7.out, List.length_append, numBytes_length]; have := YL2.out; omega) ?_
        intro R8 c8 w8 r8 b8
        have g8 := (b8.block S (by omega)).trans g7
        have B8 := B7.trans (b8.mono (Nat.le_succ S))
        refine hK.out _ _ ((cell_at g8 rfl)) (fun hHeld => ?_)
        clear hK K
        refine norm_ (a' := ?_) ?_ ?_
        rotate_left
        · show Act.put _ (some 47) _ = _
          simp only [Act.put, List.setIfInBounds_toArray, List.set_cons_zero, List.set_cons_succ, i64_w, i32_w]
          rfl
        refine pure_ (i := 8) (N := some 3) (v := ?_) (a' := ?_) #[true, true, true, true, true, true, true, true, true] rfl rfl (by kernel_rfl) (fun _ _ _ h => h) (Or.inl ⟨by rfl, ?_⟩) ?_ ?_
        rotate_left
        · intro w'
          go_simp
          with_reducible rfl
        rotate_left
        · simp only [Act.put, List.setIfInBounds_toArray, List.set_cons_zero, List.set_cons_succ, i64_w, i32_w]
          rfl
        refine done_ (by kernel_rfl) ?_
        have FIN : Hid (Y2 ++ numBytes m 2 ++ p.row = encB p) := hid (by rw [YB2.out, YB.out]; unfold encB endS; rw [if_pos PK.out, if_pos (.inr PK.out), HE.out.1, HE.out.2]; unfold textS; rw [HK.out.2]; simp)
        have FL : Hid (N7 + m = (encB p).length) := hid (by rw [← FIN.out, hN7.out]; simp [HK.out.2, Nat.add_assoc])
        rw [FIN.out] at r8
        clear gb2 hB2 r2 v0 v1 v2 v3 g8 g7 hb7 b7 b8 r7 HC r2d sBd
        go_wp2
        go_ret
        exact ⟨R8, c8, by rw [← FL.out]; rfl, by rw [← HS.out]; exact r8.lower (Nat.le_succ S), by rw [← HS.out]; exact B8⟩
      · have t6 : ((kv.toNat : Int) == 2) = false := by
          rw [beq_eq_false_iff_ne]
          intro e
          have h3 : kv.toNat = 2 := by omega
          exact hk2 (UInt8.toNat_inj.1 (by simpa using h3))
        have PK : Hid (p.kind ≠ 2) := hid (by rw [← EK.1]; exact hk2)
        by_cases hk1 : kv = 1
        · have t7 : ((kv.toNat : Int) == 1) = true := by rw [hk1]; rfl
          have PK1 : Hid (p.kind = 1) := hid (by rw [← EK.1]; exact hk1)
          clear hk1 hk2 EK
          have HC := hid (fun (w' : World) (h : Row w' (S + 1) R2 c2 Y) (hs : S + 1 ≤ w'.heap.size) => put_count (n := m) YL.out h hs (by omega) (by omega))
          have sBd : S + 1 ≤ w2.drew.heap.size := sz2
          have r2d : Row w2.drew (S + 1) R2 c2 Y := r2
          go_wp2
          refine start_ (n := 9) (S := fun w' => w'.cell? ⟨S, 3, none⟩ = some (.slice B m d)) (ds := []) #[false, false, false, false, false, false, false, false, false] (by kernel_rfl) rfl rfl (v3) (fun hHeld => ?_)
          refine pure_ (i := 0) (N := some 40) (v := ?_) (a' := ?_) #[true, false, false, false, false, false, false, false, false] rfl rfl (by kernel_rfl) (fun _ _ _ h => h) (Or.inl ⟨by rfl, ?_⟩) ?_ ?_
          rotate_left
          · intro w'
            go_simp
            with_reducible rfl
          rotate_left
          · simp only [Act.put, List.setIfInBounds_toArray, List.set_cons_zero, List.set_cons_succ, i64_w, i32_w]
            rfl
          refine pure_ (i := 1) (N := some 41) (v := ?_) (a' := ?_) #[true, true, false, false, false, false, false, false, false] rfl rfl (by kernel_rfl) (fun _ _ _ h => h) (Or.inl ⟨by rfl, ?_⟩) ?_ ?_
          rotate_left
          · intro w'
            go_simp
            with_reducible rfl
          rotate_left
          · simp only [Act.put, List.setIfInBounds_toArray, List.set_cons_zero, List.set_cons_succ, i64_w, i32_w]
            rfl
          refine pure_ (i := 5) (N := some 45) (v := ?_) (a' := ?_) #[true, true, false, false, false, true, false, false, false] rfl rfl (by kernel_rfl) (fun _ _ _ h => h) (Or.inl ⟨by rfl, ?_⟩) ?_ ?_
          rotate_left
          · intro w'
            go_simp
            with_reducible rfl
          rotate_left
          · simp only [Act.put, List.setIfInBounds_toArray, List.set_cons_zero, List.set_cons_succ, i64_w, i32_w]
            rfl
          refine take_ (i := 2) (N := some 42) (v := ?_) (a' := ?_) #[true, true, true, false, false, true, false, false, false] rfl rfl (by kernel_rfl) (fun _ _ _ h => h) (Or.inl ⟨by rfl, ?_⟩) hHeld ?_ ?_
          rotate_left
          · intro w' s0
            go_simp
            with_reducible rfl
          rotate_left
          · simp only [Act.put, List.setIfInBounds_toArray, List.set_cons_zero, List.set_cons_succ, i64_w, i32_w]
            rfl
          refine pure_ (i := 3) (N := some 43) (v := ?_) (a' := ?_) #[true, true, true, true, false, true, false, false, false] rfl rfl (by kernel_rfl) (fun _ _ _ h => h) (Or.inl ⟨by rfl, ?_⟩) ?_ ?_
          rotate_left
          · intro w'
            go_simp
            with_reducible rfl
          rotate_left
          · simp only [Act.put, List.setIfInBounds_toArray, List.set_cons_zero, List.set_cons_succ, i64_w, i32_w]
            rfl
          refine take_ (i := 6) (N := some 46) (v := ?_) (a' := ?_) #[true, true, true, true, false, true, true, false, false] rfl rfl (by kernel_rfl) (fun _ _ _ h => h) (Or.inl ⟨by rfl, ?_⟩) hHeld ?_ ?_
          rotate_left
          · intro w' s0
            go_simp
            with_reducible rfl
          rotate_left
          · simp only [Act.put, List.setIfInBounds_toArray, List.set_cons_zero, List.set_cons_succ, i64_w, i32_w]
            rfl
          refine one_ (i := 4) (N := some 44) #[true, true, true, true, true, true, true, false, false] rfl rfl (by kernel_rfl) (by decide) (fun K hK => ?_)
          refine goes_ Tryd.func34 (by kernel_rfl) rfl #[.slice R2 (N + 1) c2, .int .i64 (m : Int)] (by rfl) rfl rfl (by simp only [List.map_toArray, List.map_cons, List.map_nil]; rfl) ?_
          with_reducible refine ((HC.out _ r2d sBd)).mono ?_
          rintro e' w7 ⟨R7, c7, N7, hN7, rfl, r7, b7⟩
          refine ⟨_, rfl, ?_⟩
          have g7 := (b7.block S (by omega)).trans (show w2.drew.heap[S]? = _ from gb2)
          have B7 : Below S w w7 := hB2.drew.trans (b7.mono (Nat.le_succ S))
          have hb7 := HB.out.below (show Below w.heap.size w w7 by rw [← HS.out]; exact B7)
          have s7 : S + 1 ≤ w7.heap.size := by have := lt_of_block g7; omega
          refine hK.out _ _ ((cell_at g7 rfl)) (fun hHeld => ?_)
          clear hK K
          refine norm_ (a' := ?_) ?_ ?_
          rotate_left
          · show Act.put _ (some 44) _ = _
            simp only [Act.put, List.setIfInBounds_toArray, List.set_cons_zero, List.set_cons_succ, i64_w, i32_w]
            rfl
          refine one_ (i := 7) (N := some 47) #[true, true, true, true, true, true, true, true, false] rfl rfl (by kernel_rfl) (by decide) (fun K hK => ?_)
          refine step_appO rfl (.tmp 44) (.tmp 46) rfl (S + 1) s7 R7 c7 N7 (Y ++ numBytes m 2) rfl hN7.out.symm r7 B d m p.row rfl HK.out.2 hb7 (by rw [hN7.out, List.length_append, numBytes_length]; have := YL.out; omega) ?_
          intro R8 c8 w8 r8 b8
          have g8 := (b8.block S (by omega)).trans g7
          have B8 := B7.trans (b8.mono (Nat.le_succ S))
          refine hK.out _ _ ((cell_at g8 rfl)) (fun hHeld => ?_)
          clear hK K
          refine norm_ (a' := ?_) ?_ ?_
          rotate_left
          · show Act.put _ (some 47) _ = _
            simp only [Act.put, List.setIfInBounds_toArray, List.set_cons_zero, List.set_cons_succ, i64_w, i32_w]
            rfl
          refine pure_ (i := 8) (N := some 3) (v := ?_) (a' := ?_) #[true, true, true, true, true, true, true, true, true] rfl rfl (by kernel_rfl) (fun _ _ _ h => h) (Or.inl ⟨by rfl, ?_⟩) ?_ ?_
          rotate_left
          · intro w'
            go_simp
            with_reducible rfl
          rotate_left
          · simp only [Act.put, List.setIfInBounds_toArray, List.set_cons_zero, List.set_cons_succ, i64_w, i32_w]
            rfl
          refine done_ (by kernel_rfl) ?_
          have FIN : Hid (Y ++ numBytes m 2 ++ p.row = encB p) := hid (by rw [YB.out]; unfold encB endS; rw [if_neg PK.out, if_pos (.inl PK1.out), HE.out.1]; unfold textS; rw [HK.out.2]; simp)
          have FL : Hid (N7 + m = (encB p).length) := hid (by rw [← FIN.out, hN7.out]; simp [HK.out.2, Nat.add_assoc])
          rw [FIN.out] at r8
          clear gb2 hB2 r2 v0 v1 v2 v3 g8 g7 hb7 b7 b8 r7 HC r2d sBd
          go_wp2
          go_ret
          exact ⟨R8, c8, by rw [← FL.out]; rfl, by rw [← HS.out]; exact r8.lower (Nat.le_succ S), by rw [← HS.out]; exact B8⟩
        · have t7 : ((kv.toNat : Int) == 1) = false := by
            rw [beq_eq_false_iff_ne]
            intro e
            have h3 : kv.toNat = 1 := by omega
            exact hk1 (UInt8.toNat_inj.1 (by simpa using h3))
          have PK1 : Hid (p.kind ≠ 1) := hid (by rw [← EK.1]; exact hk1)
          have FIN : Hid (Y = encB p) := hid (by rw [YB.out]; unfold encB endS; rw [if_neg PK.out, if_neg (by intro e; rcases e with e | e; exact PK1.out e; exact PK.out e), HE.out.1]; simp)
          rw [FIN.out] at r2 YL
          clear hk1 hk2 EK gb2 v0 v2 v3
          go_wp2
          go_ret
          exact ⟨R2, c2, by rw [YL.out]; rfl, by rw [← HS.out]; exact r2.lower (Nat.le_succ S), by rw [← HS.out]; exact hB2⟩
end Go.Proofs.YtmbgfjcmdolggaaDoor

/- The walks of the reference's blob and Encode. -/
namespace Go.Proofs.YtmbgfjcmdolggaaDoor
open Go.RowKit PrintLast

/-- What a call leaves that makes bytes; their number under a name. -/
def GaveN (w : World) (L : List UInt8) (e : Ending) (w' : World) : Prop := ∃ A' c' N, Hid (N = L.length) ∧ e = .returned (.slice A' N c') ∧ Row w' w.heap.size A' c' L ∧ Below w.heap.size w w'
theorem Gave.n {w w' : World} {L : List UInt8} {e : Ending} (h : Gave w L e w') : GaveN w L e w' := by
  obtain ⟨A', c', rfl, h1, h2⟩ := h
  exact ⟨A', c', L.length, hid rfl, rfl, h1, h2⟩
theorem GaveN.back {w w' : World} {L : List UInt8} {e : Ending} (h : GaveN w L e w') : Gave w L e w' := by
  obtain ⟨A', c', N, hN, rfl, h1, h2⟩ := h
  exact ⟨A', c', by rw [← hN.out], h1, h2⟩
theorem num_two {w : World} {n : Nat} : Calls Tryd.prog 43 #[.int .u64 (n : Int), .int .i64 2] w fun e w' => ∃ A c, e = .returned (.slice A 2 c) ∧ Row w' w.heap.size A c (numBytes n 2) ∧ Below w.heap.size w w' := by
  refine (num_any (n := n) (m := 2) (by omega)).mono ?_
  rintro e w' ⟨A, c, rfl, h1, _, h2⟩
  exact ⟨A, c, rfl, h1, h2⟩

set_option maxHeartbeats 1600000 in
theorem rblob_any {w : World} {A B : Option Addr} {c d n m : Nat} {x y : List UInt8} (hn : x.length = n) (hm : y.length = m) (hx : BSA w A c x) (hy : BSA w B d y) (h1 : n ≤ 1000000000) (h2 : m ≤ 1000000000) :
    Calls Tryd.prog 44 #[.slice A n c, .slice B m d] w (GaveN w (x ++ textS y)) := by
  have aN : (m : Int) % 18446744073709551616 = (m : Int) := by omega
  have H := hid (num_two (w := w) (n := m))
  obtain ⟨X, hX⟩ : ∃ X, X = x ++ numBytes m 2 := ⟨_, rfl⟩
  obtain ⟨Y, hY⟩ : ∃ Y, Y = x ++ textS y := ⟨_, rfl⟩
  have hXY : X ++ y = Y := by rw [hX, hY]; unfold textS; rw [hm]; simp
  have lX : X.length = n + 2 := by rw [hX, List.length_append, numBytes_length, hn]
  have lY : Y.length = n + 2 + m := by rw [← hXY, List.length_append, lX, hm]
  have HL := hid (And.intro lX lY)
  have HX := hid (And.intro hX hXY)
  have HN := hid (And.intro hn hm)
  have HB := hid (And.intro hx hy)
  rw [← hY]
  clear hX hY hXY lX lY hn hm hx hy
  go_enter Tryd.func44, Tryd.ntmps44
  go_wp2_with fail
  refine H.out.mono ?_
  rintro e w1 ⟨A1, c1, rfl, r1, b1⟩
  have H := hid (join_gave HN.out.1 (numBytes_length m 2) HX.out.1.symm (HB.out.1.below b1) r1.bsa (by rw [HL.out.1]; omega))
  go_wp2_with fail
  refine H.out.mono ?_
  rintro e w2 ⟨A2, c2, rfl, r2, b2⟩
  have bb2 := below_then b1 b2
  have H := hid (join_gave rfl HN.out.2 HX.out.2 r2.bsa (HB.out.2.below bb2) (by rw [HL.out.2]; omega))
  clear r1 b1 b2 r2
  go_wp2_with fail
  refine H.out.mono ?_
  rintro e w3 ⟨A3, c3, rfl, r3, b3⟩
  have bb3 := below_then bb2 b3
  have sz := bb2.size
  go_wp2
  go_ret
  exact ⟨A3, c3, _, hid rfl, rfl, r3.lower sz, bb3⟩

set_option maxRecDepth 100000 in
set_option maxHeartbeats 6400000 in
theorem renc_any {w : World} {A B : Option Addr} {c d k m : Nat} {p : Prf} (hk : p.side.length = k) (hm : p.row.length = m) (hA : TxtAt w A p.side) (hB : BSA w B d p.row) (hp : Holds p) :
    Calls Tryd.prog 20 #[.agg #[.slice A k c, .int .u8 (p.kind.toNat : Int), .string p.key, .slice B m d]] w (Gave w (encB p)) := by
  obtain ⟨hp1, hp2, hp3, hp4⟩ := hp
  rw [hk] at hp1
  rw [hm] at hp4
  have aN : (k : Int) % 18446744073709551616 = (k : Int) := by omega
  obtain ⟨S, hS⟩ : ∃ S, S = w.heap.size := ⟨_, rfl⟩
  have al := below_alloc (Below.refl _ w) (.cells #[.slice A k c, .int .u8 (p.kind.toNat : Int), .string p.key, .slice B m d] 36)
  have gb := heap_alloc_new w (.cells #[.slice A k c, .int .u8 (p.kind.toNat : Int), .string p.key, .slice B m d] 36)
  have sz : S + 1 ≤ (w.alloc (.cells #[.slice A k c, .int .u8 (p.kind.toNat : Int), .string p.key, .slice B m d] 36)).heap.size := by rw [hS]; simp
  rw [← hS] at gb al
  have HS := hid hS
  have HA := hid hA
  have HB := hid hB
  have HK := hid (And.intro hk hm)
  have HP2 := hid hp2
  obtain ⟨kv, hkv⟩ : ∃ kv, kv = p.kind := ⟨_, rfl⟩
  obtain ⟨key, hkey⟩ : ∃ key, key = p.key := ⟨_, rfl⟩
  rw [← hkv, ← hkey] at gb al sz ⊢
  rw [← hkey] at hp3
  have HE := hid (And.intro hkv hkey)
  clear hS hA hB hk hm hp2 hkv hkey
  go_enter Tryd.func20, Tryd.ntmps20
  go_upto_region 1 with fail
  rw [← HS.out]
  generalize w.alloc (.cells #[.slice A k c, .int .u8 (kv.toNat : Int), .string key, .slice B m d] 36) = W at *
  obtain ⟨v0, v1, v2, v3, -, -, -, -⟩ := four gb
  have H := hid (num_two (w := W) (n := k))
  go_wp2_with fail
  refine H.out.mono ?_
  rintro x w1 ⟨R1, c1, rfl, r1, b1⟩
  have gb1 := (b1.block S (by omega)).trans gb
  obtain ⟨nb, hnb⟩ : ∃ nb, nb = numBytes k 2 := ⟨_, rfl⟩
  rw [← hnb] at r1
  have LB : Hid (nb.length = 2) := hid (by rw [hnb, numBytes_length])
  have NB := hid hnb
  have r1' : Row w1 (S + 1) R1 c1 (nb ++ sidesS (p.side.take 0)) := by
    have : nb ++ sidesS (p.side.take 0) = nb := by simp [sidesS]
    rw [this]
    exact r1.lower sz
  have P0 : Hid (2 = (nb ++ sidesS (p.side.take 0)).length) := hid (by simp [sidesS, LB.out])
  have hAw := al.trans (b1.mono (show S ≤ W.heap.size by omega))
  clear hnb r1 v0 v1 v2 v3 gb al sz H b1
  obtain ⟨v0, v1, v2, v3, -, -, -, -⟩ := four gb1
  go_wp2
  go_loopw [3, 4] (fun v i wr => ∃ (j N c' : Nat) (R : Option Addr), j ≤ k ∧ i = .int .i64 j ∧ v = .slice R N c' ∧ Hid (N = (nb ++ sidesS (p.side.take j)).length) ∧ Row wr (S + 1) R c' (nb ++ sidesS (p.side.take j)) ∧ wr.heap[S]? = some (.cells #[.slice A k c, .int .u8 (kv.toNat : Int), .string key, .slice B m d] 36 (0, 0)) ∧ Below S w wr) (fun _ i _ => k - (intOf i).toNat)
  case atStart => exact ⟨0, 2, c1, R1, Nat.zero_le _, rfl, rfl, P0, r1', gb1, hAw⟩
  case round =>
    clear P0 r1' gb1 hAw v0 v1 v2 v3
    obtain ⟨j, N, c', R, hj, rfl, rfl, hN, hR, gb, hB⟩ := hrel
    have sz : S + 1 ≤ wr.heap.size := by have := lt_of_block gb; omega
    obtain ⟨v0, v1, v2, v3, -, -, -, -⟩ := four gb
    by_cases hlt : j < k
    · have t1 : decide ((j : Int) < (k : Int)) = true := by simp; omega
      have hjs : j < p.side.length := by rw [HK.out.1]; exact hlt
      obtain ⟨g, o, rfl, cs⟩ := (HA.out.below (show Below w.heap.size w wr by rw [← HS.out]; exact hB)).at_ j hjs
      have NX := hid (sidesS_take p.side j hjs)
      have LE := hid (sidesS_one p.side j hjs)
      obtain ⟨s, hs⟩ : ∃ s, s = p.side[j] := ⟨_, rfl⟩
      rw [← hs] at cs NX LE
      clear hs
      go_wp2_with (refine wpList_appS rfl (.tmp 17) (.tmp 22) rfl (S + 1) sz R c' (nb ++ sidesS (p.side.take j)) (by rw [← hN.out]; rfl) hR s rfl (by have := LE.out; have := HP2.out; have := LB.out; rw [List.length_append]; omega) (N + s.size) (by rw [← hN.out]) ?_)
      intro R2 c2 w2 m1 m2
      have hN' : Hid (N + s.size = (nb ++ sidesS (p.side.take (j + 1))).length) := hid (by rw [NX.out, ← List.append_assoc, List.length_append, ← hN.out, bsz])
      first | rw [List.append_assoc, ← NX.out] at m1 | rw [← NX.out] at m1
      have gb2 := (m2.block S (by omega)).trans gb
      have hB2 := hB.trans (m2.mono (Nat.le_succ S))
      clear hR gb hB cs NX LE hN m2 sz v0 v1 v2 v3
      go_wp2
      go_roundw
      case rel => exact ⟨j + 1, N + s.size, c2, R2, hlt, by go_num, by go_num, hN', m1, gb2, hB2⟩
      case measure => simp [intOf]; omega
    · obtain rfl : j = k := by omega
      have t1 : decide ((j : Int) < (j : Int)) = false := by simp
      obtain ⟨X, hX⟩ : ∃ X, X = nb ++ sidesS p.side := ⟨_, rfl⟩
      have e1 : p.side.take j = p.side := List.take_of_length_le (Nat.le_of_eq HK.out.1)
      rw [e1, ← hX] at hR hN
      have XB : Hid (X = numBytes p.side.length 2 ++ sidesS p.side) := hid (by rw [hX, NB.out, HK.out.1])
      have XL : N ≤ 100000002 := by rw [hN.out, hX, List.length_append, LB.out]; have := HP2.out; omega
      have al := (Below.refl (S + 1) wr).alloc sz (.cells #[.int .u8 (kv.toNat : Int)] 5)
      have q0 := lit_bsa wr kv
      have hR' := hR.below (below_alloc (Below.refl _ wr) (.cells #[.int .u8 (kv.toNat : Int)] 5))
      have HG := hid gb
      have sz' := Nat.le_trans sz al.size
      clear e1 hX hR hlt LB NB
      go_wp2_with (refine wpList_appO rfl (.tmp 24) (.tmp 27) rfl (S + 1) sz' R c' X (by rw [← hN.out]; rfl) hR' _ 1 [kv] rfl q0 (by rw [← hN.out]; simp; omega) (N + 1) (by rw [← hN.out]; rfl) ?_)
      intro R2 c2 w2 r2 m2
      have gb2 := ((al.trans m2).block S (by omega)).trans HG.out
      have hB2 := hB.trans ((al.trans m2).mono (Nat.le_succ S))
      obtain ⟨Y, hY⟩ : ∃ Y, Y = X ++ [kv] := ⟨_, rfl⟩
      have YL : Hid (Y.length = N + 1) := hid (by rw [hY, List.length_append, ← hN.out]; rfl)
      rw [← hY] at r2
      have YB : Hid (Y = numBytes p.side.length 2 ++ sidesS p.side ++ [kv]) := hid (by rw [hY, XB.out])
      have sz2 : S + 1 ≤ w2.heap.size := by have := lt_of_block gb2; omega
      clear hR' q0 al m2 HG gb hB sz sz' hY v0 v1 v2 v3 hN XB
      obtain ⟨v0, v1, v2, v3, -, -, -, -⟩ := four gb2
      have EK := HE.out
      by_cases hk2 : kv = 2
      · have t6 : ((kv.toNat : Int) == 2) = true := by rw [hk2]; rfl
        have t7 : ((kv.toNat : Int) == 1) = false := by rw [hk2]; rfl
        have PK : Hid (p.kind = 2) := hid (by rw [← EK.1]; exact hk2)
        clear hk2 EK
        have ks : key.size ≤ maxLen := by unfold maxLen; omega
        go_wp2_with (refine wpList_conv rfl (.tmp 34) rfl key rfl ks ?_)
        intro g3 c3 w3 _ q3 b3
        have r2b := r2.below b3
        have gb3 := below_heap b3 gb2
        have hB3 := hB2.trans (b3.mono (by omega))
        have H := hid (rblob_any YL.out (bsz key) r2b.bsa q3 (by omega) (by omega))
        go_wp2_with fail
        refine H.out.mono ?_
        rintro e w4 ⟨R4, c4, N4, hN4, rfl, r4, b4⟩
        obtain ⟨Y2, hY2⟩ : ∃ Y2, Y2 = Y ++ textS key.data.toList := ⟨_, rfl⟩
        rw [← hY2] at r4 hN4
        have Y2L : Hid (Y2.length = N4) := hid hN4.out.symm
        have sz3 : S + 1 ≤ w3.heap.size := by have := lt_of_block gb3; omega
        have NL : N4 ≤ 200000000 := by rw [hN4.out, hY2, List.length_append, textS_length, bsz]; have := YL.out; omega
        have Y2B := hid hY2
        have gb4 := below_heap b4 gb3
        have hB4 := hB3.trans (b4.mono (by omega))
        have r4' : Row w4 (S + 1) R4 c4 Y2 := r4.lower sz3
        clear r2 hB2 gb2 sz2 v0 v1 v2 v3 r2b gb3 hB3 H q3 b3 b4 r4 hY2 hN4 sz3 ks
        have sz2 : S + 1 ≤ w4.heap.size := by have := lt_of_block gb4; omega
        obtain ⟨v0, v1, v2, v3, -, -, -, -⟩ := four gb4
        have gb2 := gb4
        have hB2 := hB4
        have r2 := r4'
        clear gb4 hB4 r4'
        have H := hid (rblob_any Y2L.out HK.out.2 r2.bsa (HB.out.below (show Below w.heap.size w w4 by rw [← HS.out]; exact hB2)) (by omega) (by omega))
        go_wp2_with fail
        refine H.out.mono ?_
        rintro e w8 ⟨R8, c8, N8, hN8, rfl, r8, b8⟩
        have FIN : Hid (Y2 ++ textS p.row = encB p) := hid (by rw [Y2B.out, YB.out]; unfold encB endS; rw [if_pos PK.out, if_pos (.inr PK.out), HE.out.1, HE.out.2]; simp)
        rw [FIN.out] at r8 hN8
        have B8 := hB2.trans (b8.mono (by omega))
        have R8' : Row w8 S R8 c8 (encB p) := r8.lower (by omega)
        clear r8 b8 r2 hB2 gb2 v0 v1 v2 v3 H
        go_wp2
        go_ret
        exact ⟨R8, c8, by rw [← hN8.out]; rfl, by rw [← HS.out]; exact R8', by rw [← HS.out]; exact B8⟩
      · have t6 : ((kv.toNat : Int) == 2) = false := by
          rw [beq_eq_false_iff_ne]
          intro e
          have h3 : kv.toNat = 2 := by omega
          exact hk2 (UInt8.toNat_inj.1 (by simpa using h3))
        have PK : Hid (p.kind ≠ 2) := hid (by rw [← EK.1]; exact hk2)
        by_cases hk1 : kv = 1
        · have t7 : ((kv.toNat : Int) == 1) = true := by rw [hk1]; rfl
          have PK1 : Hid (p.kind = 1) := hid (by rw [← EK.1]; exact hk1)
          clear hk1 hk2 EK
          have H := hid (rblob_any YL.out HK.out.2 r2.bsa (HB.out.below (show Below w.heap.size w w2 by rw [← HS.out]; exact hB2)) (by omega) (by omega))
          go_wp2_with fail
          refine H.out.mono ?_
          rintro e w8 ⟨R8, c8, N8, hN8, rfl, r8, b8⟩
          have FIN : Hid (Y ++ textS p.row = encB p) := hid (by rw [YB.out]; unfold encB endS; rw [if_neg PK.out, if_pos (.inl PK1.out), HE.out.1]; simp)
          rw [FIN.out] at r8 hN8
          have B8 := hB2.trans (b8.mono (by omega))
          have R8' : Row w8 S R8 c8 (encB p) := r8.lower (by omega)
          clear r8 b8 r2 hB2 gb2 v0 v1 v2 v3 H
          go_wp2
          go_ret
          exact ⟨R8, c8, by rw [← hN8.out]; rfl, by rw [← HS.out]; exact R8', by rw [← HS.out]; exact B8⟩
        · have t7 : ((kv.toNat : Int) == 1) = false := by
            rw [beq_eq_false_iff_ne]
            intro e
            have h3 : kv.toNat = 1 := by omega
            exact hk1 (UInt8.toNat_inj.1 (by simpa using h3))
          have PK1 : Hid (p.kind ≠ 1) := hid (by rw [← EK.1]; exact hk1)
          have FIN : Hid (Y = encB p) := hid (by rw [YB.out]; unfold encB endS; rw [if_neg PK.out, if_neg (by intro e; rcases e with e | e; exact PK1.out e; exact PK.out e), HE.out.1]; simp)
          rw [FIN.out] at r2 YL
          clear hk1 hk2 EK gb2 v0 v2 v3
          go_wp2
          go_ret
          exact ⟨R2, c2, by rw [YL.out]; rfl, by rw [← HS.out]; exact r2.lower (Nat.le_succ S), by rw [← HS.out]; exact hB2⟩
end Go.Proofs.YtmbgfjcmdolggaaDoor

/- The walks of Same of both, of like. -/
namespace Go.Proofs.YtmbgfjcmdolggaaDoor
open Go.RowKit PrintLast

def sameB (p q : Prf) : Bool := decide (p.side = q.side) && decide (p.kind = q.kind) && decide (p.key = q.key) && decide (p.row = q.row)
theorem sameB_self (p : Prf) : sameB p p = true := by simp [sameB]
/-- A proof that is read. -/
def PrfAt (w : World) (A : Option Addr) (n c : Nat) (B : Option Addr) (m d : Nat) (p : Prf) : Prop := p.side.length = n ∧ p.row.length = m ∧ n ≤ 1000000000 ∧ TxtAt w A p.side ∧ BSA w B d p.row
theorem PrfAt.below {w w' : World} {A B : Option Addr} {n c m d : Nat} {p : Prf} (h : PrfAt w A n c B m d p) (hb : Below w.heap.size w w') : PrfAt w' A n c B m d p :=
  ⟨h.1, h.2.1, h.2.2.1, h.2.2.2.1.below hb, h.2.2.2.2.below hb⟩
theorem alloc2 (w : World) (o1 o2 : Obj) : ((w.alloc o1).alloc o2).heap[w.heap.size]? = some o1 ∧ ((w.alloc o1).alloc o2).heap[w.heap.size + 1]? = some o2 ∧ Below w.heap.size w ((w.alloc o1).alloc o2) := by
  have s1 : (w.alloc o1).heap.size = w.heap.size + 1 := by simp
  have h1 := heap_alloc_new w o1
  have h2 := heap_alloc_new (w.alloc o1) o2
  rw [s1] at h2
  have b1 := below_alloc (Below.refl _ (w.alloc o1)) o2
  exact ⟨below_heap b1 h1, h2, below_alloc (below_alloc (Below.refl _ w) o1) o2⟩
theorem kind_bne {a b : UInt8} (h : a ≠ b) : ((a.toNat : Int) == (b.toNat : Int)) = false := by
  rw [beq_eq_false_iff_ne]
  intro e
  exact h (UInt8.toNat_inj.1 (by omega))
/-- Bytes that are alike, their numbers under names. -/
theorem bytes_n {w : World} {A B : Option Addr} {c d n m : Nat} {x y : List UInt8} (h1 : x.length = n) (h2 : y.length = m) (hx : BSA w A c x) (hy : BSA w B d y) :
    Calls Tryd.prog 19 #[.slice A n c, .slice B m d] w fun e w' => e = .returned (.bool (decide (x = y))) ∧ Below w.heap.size w w' := by
  subst h1 h2
  exact bytes_any hx hy

set_option maxRecDepth 100000 in
set_option maxHeartbeats 6400000 in
theorem rsame_any {w : World} {A B A' B' : Option Addr} {n c m d n' c' m' d' : Nat} {p q : Prf} (hp : PrfAt w A n c B m d p) (hq : PrfAt w A' n' c' B' m' d' q) :
    Calls Tryd.prog 42 #[.agg #[.slice A n c, .int .u8 (p.kind.toNat : Int), .string p.key, .slice B m d], .agg #[.slice A' n' c', .int .u8 (q.kind.toNat : Int), .string q.key, .slice B' m' d']] w fun e w' => e = .returned (.bool (sameB p q)) ∧ Below w.heap.size w w' := by
  obtain ⟨g0, g1, al⟩ := alloc2 w (.cells #[.slice A n c, .int .u8 (p.kind.toNat : Int), .string p.key, .slice B m d] 36) (.cells #[.slice A' n' c', .int .u8 (q.kind.toNat : Int), .string q.key, .slice B' m' d'] 36)
  obtain ⟨S, hS⟩ : ∃ S, S = w.heap.size := ⟨_, rfl⟩
  obtain ⟨ps, pk, pkey, pr⟩ := p
  obtain ⟨qs, qk, qkey, qr⟩ := q
  obtain ⟨hn, hm, hnb, hA, hB⟩ := hp
  obtain ⟨hn', hm', hnb', hA', hB'⟩ := hq
  have HA := hid (hA.below al)
  have HA' := hid (hA'.below al)
  have HB := hid hB
  have HB' := hid hB'
  have HN := hid (And.intro hn hn')
  have HM := hid (And.intro hm hm')
  rw [← hS] at g0 g1 al
  have HS := hid hS
  have SB : Hid (∀ b, (decide (ps = qs) && decide (pk = qk) && decide (pkey = qkey) && decide (pr = qr)) = b → sameB ⟨ps, pk, pkey, pr⟩ ⟨qs, qk, qkey, qr⟩ = b) := hid (fun b h => h)
  clear hA hA' hB hB' hn hn' hm hm' hS
  go_enter Tryd.func42, Tryd.ntmps42
  go_upto_region 1 with fail
  rw [← HS.out]
  generalize hW : (w.alloc (.cells #[.slice A n c, .int .u8 (pk.toNat : Int), .string pkey, .slice B m d] 36)).alloc (.cells #[.slice A' n' c', .int .u8 (qk.toNat : Int), .string qkey, .slice B' m' d'] 36) = W at *
  have HT := hid (texts_any (c := c) (d := c') HN.out.1 HN.out.2 HA.out HA'.out hnb hnb')
  obtain ⟨S1, hS1⟩ : ∃ S1, S1 = S + 1 := ⟨_, rfl⟩
  rw [← hS1] at g1 ⊢
  have o01 : S < S1 := by omega
  clear hS1
  obtain ⟨v0, v1, v2, v3, -, -, -, -⟩ := four g0
  obtain ⟨u0, u1, u2, u3, -, -, -, -⟩ := four g1
  clear hW HA HA'
  go_wp2_with fail
  refine HT.out.mono ?_
  rintro e w1 ⟨rfl, b1⟩
  have h0 := below_heap b1 g0
  have h1 := below_heap b1 g1
  have B1 := al.trans (b1.mono (by have := lt_of_block g0; omega))
  clear v0 v1 v2 v3 u0 u1 u2 u3 g0 g1 HT al b1
  obtain ⟨v0, v1, v2, v3, -, -, -, -⟩ := four h0
  obtain ⟨u0, u1, u2, u3, -, -, -, -⟩ := four h1
  by_cases hs : ps = qs
  · have d0 : decide (ps = qs) = true := by simp [hs]
    rw [d0]
    by_cases hk : pk = qk
    · have t1 : ((pk.toNat : Int) == (qk.toNat : Int)) = true := by rw [hk]; simp
      by_cases hy : pkey = qkey
      · have t2 : (pkey.toList == qkey.toList) = true := by rw [hy]; simp
        have HR := hid (bytes_n HM.out.1 HM.out.2 (HB.out.below (show Below w.heap.size w w1 by rw [← HS.out]; exact B1)) (HB'.out.below (show Below w.heap.size w w1 by rw [← HS.out]; exact B1)))
        have FIN : Hid (sameB ⟨ps, pk, pkey, pr⟩ ⟨qs, qk, qkey, qr⟩ = decide (pr = qr)) := hid (SB.out _ (by simp [hs, hk, hy]))
        clear hs hk hy d0 h0 h1 HB HB' SB
        go_wp2_with fail
        refine HR.out.mono ?_
        rintro e w2 ⟨rfl, b2⟩
        have B2 : Below w.heap.size w w2 := by rw [← HS.out]; exact B1.trans (b2.mono (by have := v0; have := World.block_lt_of_cell? w1 _ v0; show S ≤ w1.heap.size; have h9 : S < w1.heap.size := this; omega))
        clear HR v0 v1 v2 v3 u0 u1 u2 u3
        go_wp2
        go_ret
        exact ⟨by rw [FIN.out]; rfl, B2⟩
      · have t2 : (pkey.toList == qkey.toList) = false := by rw [str_beq]; simp [hy]
        have FIN := hid (SB.out false (by simp [hy]))
        clear hs hk hy d0 h0 h1 SB
        rw [HS.out] at B1
        go_wp2
        go_ret
        exact ⟨by rw [FIN.out]; rfl, B1⟩
    · have t1 := kind_bne hk
      have FIN := hid (SB.out false (by simp [hk]))
      clear hs hk d0 h0 h1 SB
      rw [HS.out] at B1
      go_wp2
      go_ret
      exact ⟨by rw [FIN.out]; rfl, B1⟩
  · have d0 : decide (ps = qs) = false := by simp [hs]
    rw [d0]
    have FIN := hid (SB.out false (by simp [hs]))
    clear hs d0 h0 h1 SB
    rw [HS.out] at B1
    go_wp2
    go_ret
    exact ⟨by rw [FIN.out]; rfl, B1⟩

set_option maxRecDepth 100000 in
set_option maxHeartbeats 6400000 in
theorem psame_any {w : World} {A B A' B' : Option Addr} {n c m d n' c' m' d' : Nat} {p q : Prf} (hp : PrfAt w A n c B m d p) (hq : PrfAt w A' n' c' B' m' d' q) :
    Calls Tryd.prog 17 #[.agg #[.slice A n c, .int .u8 (p.kind.toNat : Int), .string p.key, .slice B m d], .agg #[.slice A' n' c', .int .u8 (q.kind.toNat : Int), .string q.key, .slice B' m' d']] w fun e w' => e = .returned (.bool (sameB p q)) ∧ Below w.heap.size w w' := by
  obtain ⟨g0, g1, al⟩ := alloc2 w (.cells #[.slice A n c, .int .u8 (p.kind.toNat : Int), .string p.key, .slice B m d] 30) (.cells #[.slice A' n' c', .int .u8 (q.kind.toNat : Int), .string q.key, .slice B' m' d'] 30)
  obtain ⟨S, hS⟩ : ∃ S, S = w.heap.size := ⟨_, rfl⟩
  obtain ⟨ps, pk, pkey, pr⟩ := p
  obtain ⟨qs, qk, qkey, qr⟩ := q
  obtain ⟨hn, hm, hnb, hA, hB⟩ := hp
  obtain ⟨hn', hm', hnb', hA', hB'⟩ := hq
  have HA := hid (hA.below al)
  have HA' := hid (hA'.below al)
  have HB := hid hB
  have HB' := hid hB'
  have HN := hid (And.intro hn hn')
  have HM := hid (And.intro hm hm')
  rw [← hS] at g0 g1 al
  have HS := hid hS
  have SB : Hid (∀ b, (decide (ps = qs) && decide (pk = qk) && decide (pkey = qkey) && decide (pr = qr)) = b → sameB ⟨ps, pk, pkey, pr⟩ ⟨qs, qk, qkey, qr⟩ = b) := hid (fun b h => h)
  clear hA hA' hB hB' hn hn' hm hm' hS
  go_enter Tryd.func17, Tryd.ntmps17
  go_upto_region 1 with fail
  rw [← HS.out]
  generalize hW : (w.alloc (.cells #[.slice A n c, .int .u8 (pk.toNat : Int), .string pkey, .slice B m d] 30)).alloc (.cells #[.slice A' n' c', .int .u8 (qk.toNat : Int), .string qkey, .slice B' m' d'] 30) = W at *
  have HT := hid (equalT_any (c := c) (d := c') HN.out.1 HN.out.2 HA.out HA'.out hnb hnb')
  obtain ⟨S1, hS1⟩ : ∃ S1, S1 = S + 1 := ⟨_, rfl⟩
  rw [← hS1] at g1 ⊢
  have o01 : S < S1 := by omega
  clear hS1
  obtain ⟨v0, v1, v2, v3, -, -, -, -⟩ := four g0
  obtain ⟨u0, u1, u2, u3, -, -, -, -⟩ := four g1
  clear hW HA HA'
  go_wp2_with fail
  refine HT.out.mono ?_
  rintro e w1 ⟨rfl, b1⟩
  have h0 := below_heap b1 g0
  have h1 := below_heap b1 g1
  have B1 := al.trans (b1.mono (by have := lt_of_block g0; omega))
  clear v0 v1 v2 v3 u0 u1 u2 u3 g0 g1 HT al b1
  obtain ⟨v0, v1, v2, v3, -, -, -, -⟩ := four h0
  obtain ⟨u0, u1, u2, u3, -, -, -, -⟩ := four h1
  by_cases hs : ps = qs
  · have d0 : decide (ps = qs) = true := by simp [hs]
    rw [d0]
    by_cases hk : pk = qk
    · have t1 : ((pk.toNat : Int) == (qk.toNat : Int)) = true := by rw [hk]; simp
      by_cases hy : pkey = qkey
      · have t2 : (pkey.toList == qkey.toList) = true := by rw [hy]; simp
        have HR := hid (equalB_any HM.out.1 HM.out.2 (HB.out.below (show Below w.heap.size w w1 by rw [← HS.out]; exact B1)) (HB'.out.below (show Below w.heap.size w w1 by rw [← HS.out]; exact B1)))
        have FIN : Hid (sameB ⟨ps, pk, pkey, pr⟩ ⟨qs, qk, qkey, qr⟩ = decide (pr = qr)) := hid (SB.out _ (by simp [hs, hk, hy]))
        clear hs hk hy d0 h0 h1 HB HB' SB
        go_wp2_with fail
        refine HR.out.mono ?_
        rintro e w2 ⟨rfl, rfl⟩
        have B2 : Below w.heap.size w w1 := by rw [← HS.out]; exact B1
        clear HR v0 v1 v2 v3 u0 u1 u2 u3
        go_wp2
        go_ret
        exact ⟨by rw [FIN.out]; rfl, B2⟩
      · have t2 : (pkey.toList == qkey.toList) = false := by rw [str_beq]; simp [hy]
        have FIN := hid (SB.out false (by simp [hy]))
        clear hs hk hy d0 h0 h1 SB
        rw [HS.out] at B1
        go_wp2
        go_ret
        exact ⟨by rw [FIN.out]; rfl, B1⟩
    · have t1 := kind_bne hk
      have FIN := hid (SB.out false (by simp [hk]))
      clear hs hk d0 h0 h1 SB
      rw [HS.out] at B1
      go_wp2
      go_ret
      exact ⟨by rw [FIN.out]; rfl, B1⟩
  · have d0 : decide (ps = qs) = false := by simp [hs]
    rw [d0]
    have FIN := hid (SB.out false (by simp [hs]))
    clear hs d0 h0 h1 SB
    rw [HS.out] at B1
    go_wp2
    go_ret
    exact ⟨by rw [FIN.out]; rfl, B1⟩

set_option maxRecDepth 100000 in
set_option maxHeartbeats 6400000 in
theorem like_any {w : World} {A B A' B' : Option Addr} {n c m d n' c' m' d' : Nat} {p q : Prf} (hp : PrfAt w A n c B m d p) (hq : PrfAt w A' n' c' B' m' d' q) :
    Calls Tryd.prog 18 #[.agg #[.slice A n c, .int .u8 (p.kind.toNat : Int), .string p.key, .slice B m d], .agg #[.slice A' n' c', .int .u8 (q.kind.toNat : Int), .string q.key, .slice B' m' d']] w fun e w' => e = .returned (.bool (sameB p q)) ∧ Below w.heap.size w w' := by
  obtain ⟨g0, g1, al⟩ := alloc2 w (.cells #[.slice A n c, .int .u8 (p.kind.toNat : Int), .string p.key, .slice B m d] 30) (.cells #[.slice A' n' c', .int .u8 (q.kind.toNat : Int), .string q.key, .slice B' m' d'] 36)
  obtain ⟨S, hS⟩ : ∃ S, S = w.heap.size := ⟨_, rfl⟩
  have HR := hid (rsame_any (hp.below al) (hq.below al))
  rw [← hS] at g0 g1 al
  have HS := hid hS
  clear hp hq hS
  go_enter Tryd.func18, Tryd.ntmps18
  go_upto_region 1 with fail
  rw [← HS.out]
  generalize hW : (w.alloc (.cells #[.slice A n c, .int .u8 (p.kind.toNat : Int), .string p.key, .slice B m d] 30)).alloc (.cells #[.slice A' n' c', .int .u8 (q.kind.toNat : Int), .string q.key, .slice B' m' d'] 36) = W at *
  obtain ⟨S1, hS1⟩ : ∃ S1, S1 = S + 1 := ⟨_, rfl⟩
  rw [← hS1] at g1 ⊢
  have o01 : S < S1 := by omega
  clear hS1
  have sz : S ≤ W.heap.size := by have := lt_of_block g0; omega
  obtain ⟨v0, v1, v2, v3, -, -, -, -⟩ := four g0
  obtain ⟨u0, u1, u2, u3, -, -, -, -⟩ := four g1
  clear hW g0 g1
  go_wp2_with fail
  refine HR.out.mono ?_
  rintro e w2 ⟨rfl, b2⟩
  have B2 : Below w.heap.size w w2 := by rw [← HS.out]; exact al.trans (b2.mono sz)
  clear HR v0 v1 v2 v3 u0 u1 u2 u3
  go_wp2
  go_ret
  exact ⟨rfl, B2⟩
end Go.Proofs.YtmbgfjcmdolggaaDoor

/- The walks of what the laws of layer 10 share: a proof out of no tree, the document's example, reads. -/
namespace Go.Proofs.YtmbgfjcmdolggaaDoor
open Go.RowKit PrintLast

theorem halves_nil {w : World} : Calls Tryd.prog 29 #[.pointer none] w fun e w' => e = .returned (.tuple #[.pointer none, .pointer none, .bool false]) ∧ w = w' := by
  go_enter Tryd.func29, Tryd.ntmps29
  go_wp2
  go_ret3
  exact ⟨rfl, rfl⟩
theorem single_nil {w : World} : Calls Tryd.prog 54 #[.pointer none] w fun e w' => e = .returned (.bool false) ∧ w = w' := by
  go_enter Tryd.func54, Tryd.ntmps54
  go_wp2
  go_ret
  exact ⟨rfl, rfl⟩
theorem leaf_nil {w : World} : Calls Tryd.prog 33 #[.pointer none] w fun e w' => e = .returned (.tuple #[.string ⟨#[]⟩, .slice none 0 0, .bool false]) ∧ w = w' := by
  have H := hid (single_nil (w := w))
  go_enter Tryd.func33, Tryd.ntmps33
  go_wp2_with fail
  refine H.out.mono ?_
  rintro e w1 ⟨rfl, rfl⟩
  go_wp2
  go_ret3
  exact ⟨rfl, rfl⟩

theorem halves_nil' {w : World} : Calls Tryd.prog 29 #[.pointer none] w fun e w' => e = .returned (.tuple #[.pointer none, .pointer none, .bool false]) ∧ w = w' := halves_nil
/-- A struct that is handed back by value out of its block. -/
theorem ret_cell_one {P : Program} {fn : Func} {p : Tmp} {ty : TypeId} (h : fn.results = #[.cell p ty]) {tmps : Array Value} {w : World} {g : Nat} {cs : Array Value} {t : TypeId} {fr : Nat × Nat} {d : TypeDesc} (hp : tmps.getD p undef = .pointer (some ⟨g, 0, none⟩)) (hg : w.heap[g]? = some (.cells cs t fr))
    (hu : P.underlying ty = some d) (hd : (match d with | .struct _ | .array _ _ => true | _ => false) = true) (hi : (P.info? ty).map (·.size) = some cs.size) :
    (results fn tmps).run P w = .ok (.agg cs) w := results_cell_row h _ _ g t cs fr d hp hg hu hd hi

set_option maxRecDepth 100000 in
set_option maxHeartbeats 3200000 in
theorem build_nil {w : World} (hT : Table w) {key : ByteArray} (hk : key.size ≤ 1000000) :
    Calls Tryd.prog 25 #[.pointer none, .string key] w fun e w' => e = .returned (.agg #[.slice none 0 0, .int .u8 0, .string ⟨#[]⟩, .slice none 0 0]) ∧ Below w.heap.size w w' := by
  obtain ⟨g0, g1, al⟩ := alloc2 w (.cells #[.slice none 0 0, .int .u8 0, .string ⟨#[]⟩, .slice none 0 0] 30) (.cells #[.slice none 0 0, .int .u8 0, .string ⟨#[]⟩, .slice none 0 0] 30)
  obtain ⟨S, hS⟩ : ∃ S, S = w.heap.size := ⟨_, rfl⟩
  have hT' := hid (hT.below al)
  rw [← hS] at g0 g1 al
  have HS := hid hS
  have ks : key.size ≤ maxLen := by unfold maxLen; omega
  clear hT hS
  go_enter Tryd.func25, Tryd.ntmps25
  go_upto_region 2 with fail
  rw [← HS.out]
  generalize hW : (w.alloc (.cells #[.slice none 0 0, .int .u8 0, .string ⟨#[]⟩, .slice none 0 0] 30)).alloc (.cells #[.slice none 0 0, .int .u8 0, .string ⟨#[]⟩, .slice none 0 0] 30) = W at *
  obtain ⟨S1, hS1⟩ : ∃ S1, S1 = S + 1 := ⟨_, rfl⟩
  rw [← hS1] at g1 ⊢
  have o01 : S < S1 := by omega
  clear hS1 hW
  go_wp2_with (refine wpList_conv rfl (.tmp 13) rfl key rfl ks ?_)
  intro g3 c3 w3 _ q3 b3
  have sW : S ≤ W.heap.size := by have := lt_of_block g0; omega
  have h0 := below_heap b3 g0
  have h1 := below_heap b3 g1
  have B3 := al.trans (b3.mono sW)
  have H := hid (sum_dig (bsz key) (hT'.out.below b3) q3 (by rw [bsz]; omega))
  clear g0 g1 al b3 q3 sW
  go_wp2_with fail
  refine H.out.mono ?_
  rintro e w4 ⟨rfl, b4⟩
  have k0 := below_heap b4 h0
  have k1 := below_heap b4 h1
  have B4 := B3.trans (b4.mono (by have := lt_of_block h0; omega))
  have HH := hid (halves_nil (w := w4))
  have HL := hid (leaf_nil (w := w4))
  obtain ⟨v0, v1, v2, v3, v0', v1', v2', v3'⟩ := four k0
  obtain ⟨u0, u1, u2, u3, -, -, -, -⟩ := four k1
  have G := hid (set4_heap (a := .slice none 0 0) (b := .int .u8 0) (c := .string ⟨#[]⟩) (d := .slice none 0 0) k0)
  have FB := set4_below B4 (Nat.le_refl S) (.slice none 0 0) (.int .u8 0) (.string ⟨#[]⟩) (.slice none 0 0)
  rw [HS.out] at FB
  have HF := hid FB
  clear h0 h1 B3 b4 H k0 k1 B4 FB
  go_wp2
  go_loopw [0] (fun n wr => n = .pointer none ∧ w4 = wr) (fun _ _ => 0)
  case atStart => exact ⟨rfl, rfl⟩
  case round =>
    obtain ⟨rfl, rfl⟩ := hrel
    go_wp2_with fail
    refine HH.out.mono ?_
    rintro e w5 ⟨rfl, rfl⟩
    go_wp2_with fail
    refine HL.out.mono ?_
    rintro e w5 ⟨rfl, rfl⟩
    go_wp2
    refine bodyPost_ret (ret_cell_one rfl rfl G.out Tryd.underlying30 rfl infPP) rfl ?_
    exact ⟨rfl, by rw [HS.out]; exact HF.out⟩

/-- The document's example. -/
def noPrf : Prf := ⟨[], 0, ⟨#[]⟩, []⟩
theorem enc_none : encB noPrf = [0, 0, 0] := by decide
theorem res_none : resB [0, 0, 0] = (0, noPrf) := by rfl

set_option maxRecDepth 100000 in
set_option maxHeartbeats 6400000 in
theorem bare_any {w : World} (hT : Table w) : Calls Tryd.prog 11 #[] w fun e w' => e = .returned (.bool true) ∧ Below w.heap.size w w' := by
  have H := hid (build_nil (key := ⟨#[120]⟩) hT (by decide))
  obtain ⟨S, hS⟩ : ∃ S, S = w.heap.size := ⟨_, rfl⟩
  have HS := hid hS
  have HT := hid hT
  clear hT
  go_enter Tryd.func11, Tryd.ntmps11
  go_wp2_with fail
  refine H.out.mono ?_
  rintro e w1 ⟨rfl, b1⟩
  rw [← hS] at b1
  have s1 : S ≤ w1.heap.size := by rw [hS]; exact b1.size
  obtain ⟨P1, hP1⟩ : ∃ P1, P1 = w1.heap.size := ⟨_, rfl⟩
  have g1 := heap_alloc_new w1 (.cells #[.slice none 0 0, .int .u8 0, .string ⟨#[]⟩, .slice none 0 0] 30)
  have a1 := b1.alloc s1 (.cells #[.slice none 0 0, .int .u8 0, .string ⟨#[]⟩, .slice none 0 0] 30)
  rw [← hP1] at g1
  have HP1 := hid hP1
  clear H b1 hS hP1
  go_upto_region 2 with fail
  rw [← HP1.out]
  generalize w1.alloc (.cells #[.slice none 0 0, .int .u8 0, .string ⟨#[]⟩, .slice none 0 0] 30) = w2 at *
  have s2 : P1 < w2.heap.size := lt_of_block g1
  have s1' : S ≤ P1 := by rw [HP1.out]; exact s1
  have q0 := lits_bsa w2 [0, 0, 0] (by simp)
  have al2 := below_alloc (Below.refl _ w2) (.cells (bytesV [0, 0, 0]).toArray 5)
  have D := hid (dec_any (n := 3) rfl q0 (by omega))
  have g2 := below_heap al2 g1
  have a2 := a1.alloc (by omega) (.cells (bytesV [0, 0, 0]).toArray 5)
  clear q0 g1 a1 al2 s1
  go_wp2_with fail
  refine D.out.mono ?_
  rintro e w3 ⟨A, c, B, d, rfl, t3, r3, b3⟩
  rw [res_none] at t3 r3 ⊢
  have p3 : PrfAt w3 A 0 c B 0 d noPrf := ⟨rfl, rfl, by omega, t3.at_, r3.bsa⟩
  have g3 := below_heap b3 g2
  have sa : S ≤ (w2.alloc (.cells (bytesV [0, 0, 0]).toArray 5)).heap.size := by simp; omega
  have a3 := a2.trans (b3.mono sa)
  obtain ⟨P2, hP2⟩ : ∃ P2, P2 = w3.heap.size := ⟨_, rfl⟩
  have h2 := heap_alloc_new w3 (.cells #[.slice A 0 c, .int .u8 0, .string ⟨#[]⟩, .slice B 0 d] 30)
  have al4 := below_alloc (Below.refl _ w3) (.cells #[.slice A 0 c, .int .u8 0, .string ⟨#[]⟩, .slice B 0 d] 30)
  rw [← hP2] at h2
  have HP2 := hid hP2
  have s3 : S ≤ w3.heap.size := by have := lt_of_block g3; omega
  have h1 := below_heap al4 g3
  have a4 := a3.alloc s3 (.cells #[.slice A 0 c, .int .u8 0, .string ⟨#[]⟩, .slice B 0 d] 30)
  have p4 := p3.below al4
  unfold prfV noPrf
  clear D t3 r3 b3 g2 a2 sa g3 a3 al4 p3 hP2
  go_upto_region 3 with fail
  show Code.wp _ _ _ _ (w3.alloc (.cells #[.slice A 0 c, .int .u8 0, .string ⟨#[]⟩, .slice B 0 d] 30))
  rw [← HP2.out]
  generalize w3.alloc (.cells #[.slice A 0 c, .int .u8 0, .string ⟨#[]⟩, .slice B 0 d] 30) = w4 at *
  have s4 : P1 < w4.heap.size := lt_of_block h1
  have s4' : P2 < w4.heap.size := lt_of_block h2
  have E := hid (enc_any (w := w4) (A := none) (c := 0) (B := none) (d := 0) (k := 0) (m := 0) (p := noPrf) rfl rfl (TxtAt.nil w4) (BSA.nil w4) ⟨by decide, by decide, by decide, by decide⟩)
  obtain ⟨v0, v1, v2, v3, -, -, -, -⟩ := four h1
  obtain ⟨u0, u1, u2, u3, -, -, -, -⟩ := four h2
  have G := hid (And.intro h1 (And.intro h2 (And.intro p4 a4)))
  clear h1 h2 p4 a4
  go_wp2_with fail
  refine E.out.mono ?_
  rintro e w5 ⟨A5, c5, rfl, r5, b5⟩
  rw [enc_none] at r5 ⊢
  have q6 := lits_bsa w5 [0, 0, 0] (by simp)
  have al6 := below_alloc (Below.refl _ w5) (.cells (bytesV [0, 0, 0]).toArray 5)
  have b6 := below_then b5 al6
  have BB := bytes_n (n := 3) (m := 3) rfl rfl (r5.bsa.below al6) q6
  rw [show decide (([0, 0, 0] : List UInt8) = [0, 0, 0]) = true by simp] at BB
  have HB := hid BB
  have h1 := below_heap b6 G.out.1
  have h2 := below_heap b6 G.out.2.1
  have p6 := G.out.2.2.1.below b6
  have a6 := G.out.2.2.2.trans (b6.mono (by omega))
  clear BB G E r5 q6 al6 b5 b6 v0 v1 v2 v3 u0 u1 u2 u3
  go_wp2_with fail
  refine HB.out.mono ?_
  rintro e w7 ⟨rfl, b7⟩
  have sz6 := lt_of_block h1
  have k1 := below_heap b7 h1
  have k2 := below_heap b7 h2
  have p7 := p6.below b7
  have a7 := a6.trans (b7.mono (by omega))
  clear HB h1 h2 p6 a6 b7 sz6
  obtain ⟨v0, v1, v2, v3, -, -, -, -⟩ := four k1
  obtain ⟨u0, u1, u2, u3, -, -, -, -⟩ := four k2
  have p0 : PrfAt w7 none 0 0 none 0 0 noPrf := ⟨rfl, rfl, by omega, TxtAt.nil w7, BSA.nil w7⟩
  have S0 := psame_any p0 p7
  rw [sameB_self] at S0
  have HS0 := hid S0
  have sz := lt_of_block k1
  clear k1 k2 p7 p0 S0
  go_wp2_with fail
  refine HS0.out.mono ?_
  rintro e w8 ⟨rfl, b8⟩
  have a8 := a7.trans (b8.mono (by omega))
  clear HS0
  go_wp2
  go_ret
  exact ⟨rfl, by rw [← HS.out]; exact a8⟩
end Go.Proofs.YtmbgfjcmdolggaaDoor
