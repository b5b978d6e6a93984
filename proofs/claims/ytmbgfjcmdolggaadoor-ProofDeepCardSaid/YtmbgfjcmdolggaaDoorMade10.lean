/- The walks of small and made. -/
import Derived.Test.YtmbgfjcmdolggaaDoorNames
import Derived.Test.YtmbgfjcmdolggaaDoorActs10
set_option linter.unusedVariables false
set_option linter.unusedSimpArgs false
namespace Go.Proofs.YtmbgfjcmdolggaaDoor
open Go.RowKit PrintLast

def SmallL (l : List PAct) : Prop := (∀ x ∈ l, x.p.length ≤ 20) ∧ l.length ≤ 30
instance (l : List PAct) : Decidable (SmallL l) := by unfold SmallL; infer_instance
set_option maxRecDepth 100000 in
set_option maxHeartbeats 3200000 in
theorem small_any {w : World} {A : Option Addr} {c n : Nat} {l : List PAct} (hn : l.length = n) (h : PActsAt w A l) (hc : n ≤ c) (hb : c ≤ maxLen) :
    Calls Tryd.prog 26 #[.slice A n c] w fun e w' => e = .returned (.bool (decide (SmallL l))) ∧ w = w' := by
  have hb2 : n ≤ 9223372036854775807 := by unfold maxLen at hb; omega
  have HN := hid hn
  have HH := hid h
  clear hn h
  go_enter Tryd.func26, Tryd.ntmps26
  go_wp2
  go_loopw [3] (fun i wr => ∃ j : Nat, j ≤ n ∧ i = .int .i64 j ∧ Hid (∀ x ∈ l.take j, x.p.length ≤ 20) ∧ w = wr) (fun i _ => n - (intOf i).toNat)
  case atStart => exact ⟨0, Nat.zero_le _, rfl, hid (fun x hx => absurd hx (by simp)), rfl⟩
  case round =>
    obtain ⟨j, hj, rfl, HA, rfl⟩ := hrel
    by_cases hlt : j < n
    · have t1 : decide ((j : Int) < (n : Int)) = true := by simp; omega
      have t1' : decide (j < n) = true := by simp; omega
      have jl : j < l.length := by have := HN.out; omega
      obtain ⟨b, o, B, pc, rfl, q0, q1, q2, hB⟩ := HH.out.at_ j jl
      have hpl := hB.le
      obtain ⟨pm, hpm⟩ : ∃ m, m = l[j].p.length := ⟨_, rfl⟩
      rw [← hpm] at q2 hpl
      have HP := hid hpm
      clear hB hpm q0 q1
      by_cases h20 : 20 < pm
      · have t2 : decide ((20 : Int) < (pm : Int)) = true := by simp; omega
        have E := hid (show decide (SmallL l) = false by
          rw [decide_eq_false_iff_not]
          intro h
          have := h.1 l[j] (List.getElem_mem _)
          have := HP.out
          omega)
        clear h20
        go_wp2
        go_ret
        exact ⟨by rw [E.out]; rfl, rfl⟩
      · have t2 : decide ((20 : Int) < (pm : Int)) = false := by simp; omega
        have E := hid (show ∀ x ∈ l.take (j + 1), x.p.length ≤ 20 by
          intro x hx
          rw [List.take_add_one, List.getElem?_eq_getElem jl] at hx
          rcases List.mem_append.1 hx with hx | hx
          · exact HA.out x hx
          · simp at hx
            rw [hx, ← HP.out]
            omega)
        clear h20
        go_wp2
        go_roundw
        case rel => exact ⟨j + 1, hlt, by go_num, E, by first | rfl | trivial⟩
        case measure => simp [intOf]; omega
    · obtain rfl : n = j := by omega
      have t1 : decide ((n : Int) < (n : Int)) = false := by simp
      have E := hid (show decide (SmallL l) = decide ((n : Int) ≤ 30) by
        have h1 := HA.out
        rw [List.take_of_length_le (Nat.le_of_eq HN.out)] at h1
        have h2 := HN.out
        rw [decide_eq_decide]
        constructor
        · intro h; have := h.2; omega
        · intro h; exact ⟨h1, by omega⟩)
      clear HA
      go_wp2
      go_ret
      exact ⟨by rw [E.out]; rfl, rfl⟩

theorem delR_map (l : List RI) (k : ByteArray) : mapI (delR l k) = delI (mapI l) k := by
  unfold mapI delR delI
  induction l with
  | nil => rfl
  | cons x l ih =>
    rw [List.filter_cons, List.map_cons, List.filter_cons]
    by_cases h : x.key = k
    · rw [if_neg (by simp [h]), if_neg (by show ¬ decide (x.key ≠ k) = true; simp [h]), ih]
    · rw [if_pos (by simp [h]), if_pos (by show decide (x.key ≠ k) = true; simp [h]), List.map_cons, ih]
theorem key_conv (w : World) (kb : UInt8) : (convert 23 9 (.slice (some ⟨w.heap.size, 0, none⟩) 2 2)).run Tryd.prog (w.alloc (.cells #[.int .u8 107, .int .u8 (kb.toNat : Int)] 5)) = .ok (.string (key2 kb)) (w.alloc (.cells #[.int .u8 107, .int .u8 (kb.toNat : Int)] 5)) :=
  conv_any (l := [107, kb]) rfl (lits_row w (Nat.zero_le _) [107, kb] (by simp)).bsa
set_option maxRecDepth 100000 in
set_option maxHeartbeats 12800000 in
theorem made_any {w : World} (hT : Table w) {A : Option Addr} {c n : Nat} {l : List PAct} (hn : l.length = n) (h : PActsAt w A l) (hc : n ≤ c) (hs : SmallL l) :
    Calls Tryd.prog 27 #[.slice A n c] w fun e w' => ∃ v A' c' n' li L, e = .returned (.tuple #[v, .slice A' n' c']) ∧ PairOf w' v A' c' n' 30 li L ∧ Below w.heap.size w w' := by
  have n30 : n ≤ 30 := by have := hs.2; omega
  have HN := hid hn
  have HH := hid h
  have TT := hid hT
  have SS := hid hs.1
  have M0 := hid (made_start w)
  have B0 := hid (Below.refl w.heap.size w)
  clear hn h hT hs
  go_enter Tryd.func27, Tryd.ntmps27
  go_wp2
  go_loopw [4, 5, 6] (fun tv iv i wr => ∃ (j n' c' : Nat) (v : Value) (A' : Option Addr) (li : List Itm) (L : List RI), j ≤ n ∧ i = .int .i64 j ∧ v = tv ∧ iv = .slice A' n' c' ∧ n' ≤ c' ∧ n' ≤ j ∧ Hid (PairOf wr v A' c' n' j li L) ∧ Hid (Below w.heap.size w wr)) (fun _ _ i _ => n - (intOf i).toNat)
  case atStart => exact ⟨0, 0, 0, .pointer none, none, [], [], Nat.zero_le _, rfl, rfl, rfl, Nat.le_refl _, Nat.le_refl _, M0, B0⟩
  case round =>
    clear M0 B0
    obtain ⟨j, m, mc, v, MA, li, L, hj, rfl, rfl, rfl, hmc, hmj, HM, HB⟩ := hrel
    by_cases hlt : j < n
    · have t1 : decide ((j : Int) < (n : Int)) = true := by simp; omega
      have t1' : decide (j < n) = true := by simp; omega
      have jl : j < l.length := by have := HN.out; omega
      obtain ⟨b, o, B, pc, rfl, q0, q1, q2, hB⟩ := (HH.out.below HB.out).at_ j jl
      obtain ⟨x, hx⟩ : ∃ x, x = l[j] := ⟨_, rfl⟩
      rw [← hx] at q0 q1 q2 hB
      have xs : x.p.length ≤ 20 := SS.out x (by rw [hx]; exact List.getElem_mem jl)
      obtain ⟨row, hrow⟩ : ∃ row, row = x.p := ⟨_, rfl⟩
      rw [← hrow] at q2 hB xs
      obtain ⟨pm, hpm⟩ : ∃ m, m = row.length := ⟨_, rfl⟩
      rw [← hpm] at q2 xs
      obtain ⟨kb, hkb⟩ : ∃ kb : UInt8, kb = x.n % 24 := ⟨_, rfl⟩
      have kn : kb.toNat = x.n.toNat % 24 := by rw [hkb, UInt8.toNat_mod]; rfl
      have e1 : (x.n.toNat : Int) % 24 = (kb.toNat : Int) := by omega
      have kb24 : kb.toNat < 24 := by omega
      obtain ⟨xn, hxn⟩ : ∃ xn, xn = x.n.toNat := ⟨_, rfl⟩
      rw [← hxn] at q1 e1
      have HP := hid hpm
      have RB := hid hB
      obtain ⟨dl, hdl⟩ : ∃ d, d = x.d := ⟨_, rfl⟩
      rw [← hdl] at q0
      have cv := key_conv wr kb
      have al := below_alloc (Below.refl _ wr) (.cells #[.int .u8 107, .int .u8 (kb.toNat : Int)] 5)
      have Q0 := hid (below_cell al q0)
      have Q2 := hid (below_cell al q2)
      have M1 := hid (HM.out.below al)
      replace RB := hid (RB.out.below al)
      have B1 := hid (below_then HB.out al)
      clear hB hx hrow hpm hkb kn hxn hdl q0 q2 al HM HB
      go_upto_region 7 with fail
      have q0 := Q0.out
      generalize wr.alloc (.cells #[.int .u8 107, .int .u8 (kb.toNat : Int)] 5) = w1 at *
      obtain ⟨key, hkey⟩ : ∃ key, key = key2 kb := ⟨_, rfl⟩
      rw [← hkey]
      have HK := hid hkey
      clear cv q1 e1 hkey
      cases dl with
      | true =>
        have D0 : Calls Tryd.prog 49 #[v, .string key] w1 (Grew w1 (treeF 256 (delI li key))) := Del_any (TT.out.below B1.out) M1.out.2.2.2.1 (by rw [HK.out, key2_size]; omega) M1.out.2.2.2.2.2.2.good (by have := M1.out.len; omega)
        have DD := hid D0
        clear D0 Q2
        go_wp2_with fail
        refine DD.out.mono ?_
        rintro e w2 ⟨v2, rfl, t2, b2⟩
        have R2 := hid (rdel_any (k := key) M1.out.1 (M1.out.2.2.2.2.1.1.below b2) hmc (by omega))
        have T2 := hid t2
        have B2 := hid (below_then B1.out b2)
        clear DD t2 b2
        go_wp2_with fail
        refine R2.out.mono ?_
        rintro e w3 ⟨A3, c3, n3, rfl, hn3, i3, b3⟩
        have pn : (mapI (delR L key)).Perm (delI li key) := by
          rw [show mapI (delR L key) = delI (mapI L) key from delR_map L key]
          exact M1.out.2.2.2.2.2.1.filter _
        have nn := M1.out.2.2.2.2.2.2.del key
        have n3j : n3 ≤ j + 1 := by
          have h1 : (delR L key).length ≤ L.length := List.length_filter_le _ _
          have := M1.out.1
          omega
        have c3n := i3.le hn3
        have M3 : Hid (PairOf w3 v2 A3 c3 n3 (j + 1) (delI li key) (delR L key)) := hid ⟨hn3, c3n, n3j, Tree.below T2.out b3, ⟨i3.at_, (names_ready pn nn).1, (names_ready pn nn).2, i3.typed⟩, pn, nn⟩
        have B3 := hid (below_then B2.out b3)
        clear R2 hn3 i3 b3 pn nn q0
        go_wp2
        go_roundw
        case rel => exact ⟨j + 1, n3, c3, v2, A3, delI li key, delR L key, hlt, by go_num, rfl, rfl, c3n, n3j, M3, B3⟩
        case measure => simp [intOf]; omega
      | false =>
        go_upto_region 9 with fail
        have q2 := Q2.out
        have TD := hid (TT.out.below B1.out)
        have nn := M1.out.2.2.2.2.2.2.put (row := row) kb24 (by have := HP.out; omega)
        have M1d := hid (M1.out.below (Below.refl _ w1).drew)
        have P0 : Calls Tryd.prog 24 #[v, .string key, .slice B pm pc] w1.drew (Grew w1.drew (treeF 256 (putI li ⟨key, row⟩))) := by
          rw [HK.out]
          exact Put_any (TD.out.below (Below.refl _ w1).drew) M1d.out.2.2.2.1 (by rw [key2_size]; omega) HP.out.symm (by omega) (RB.out.below (Below.refl _ w1).drew) M1.out.2.2.2.2.2.2.good nn.good (M1.out.2.2.2.2.2.2.tells kb24) (by have := M1.out.len; omega)
        have PP := hid P0
        have RP : Hid (∀ w2, Below w1.drew.heap.size w1.drew w2 → Calls Tryd.prog 51 #[.slice MA m mc, .string key, .slice B pm pc] w2 fun e w' => ∃ L', Hid ((L'.map RI.itm).Perm (putI (L.map RI.itm) ⟨key, row⟩)) ∧ GaveI w2 L' e w') := hid (fun w2 hb => rput_any M1.out.1 (M1d.out.2.2.2.2.1.1.below hb) hmc (by omega) HP.out.symm ((RB.out.below (Below.refl _ w1).drew).below hb) (by omega))
        have NN := hid (show Names (putI li ⟨key, row⟩) by rw [HK.out]; exact nn)
        have BD : Hid (Below w.heap.size w w1.drew) := hid B1.out.drew
        clear P0 nn q0 Q0 Q2
        refine start_ (n := 18) (S := fun w' => w'.cell? ⟨b, o + j * 3 + 2, none⟩ = some (.slice B pm pc)) (ds := []) #[false, false, false, false, false, false, false, false, false, false, false, false, false, false, false, false, false, false] (by kernel_rfl) rfl rfl (q2) (fun hHeld => ?_)
        refine pure_ (i := 0) (N := some 33) (v := ?_) (a' := ?_) #[true, false, false, false, false, false, false, false, false, false, false, false, false, false, false, false, false, false] rfl rfl (by kernel_rfl) (fun _ _ _ h => h) (Or.inl ⟨by rfl, ?_⟩) ?_ ?_
        rotate_left
        · intro w'
          go_simp
          with_reducible rfl
        rotate_left
        · simp only [Act.put, List.setIfInBounds_toArray, List.set_cons_zero, List.set_cons_succ, i64_w, i32_w]
          rfl
        refine pure_ (i := 1) (N := some 34) (v := ?_) (a' := ?_) #[true, true, false, false, false, false, false, false, false, false, false, false, false, false, false, false, false, false] rfl rfl (by kernel_rfl) (fun _ _ _ h => h) (Or.inl ⟨by rfl, ?_⟩) ?_ ?_
        rotate_left
        · intro w'
          go_simp
          with_reducible rfl
        rotate_left
        · simp only [Act.put, List.setIfInBounds_toArray, List.set_cons_zero, List.set_cons_succ, i64_w, i32_w]
          rfl
        refine pure_ (i := 2) (N := some 35) (v := ?_) (a' := ?_) #[true, true, true, false, false, false, false, false, false, false, false, false, false, false, false, false, false, false] rfl rfl (by kernel_rfl) (fun _ _ _ h => h) (Or.inl ⟨by rfl, ?_⟩) ?_ ?_
        rotate_left
        · intro w'
          go_simp
          with_reducible rfl
        rotate_left
        · simp only [Act.put, List.setIfInBounds_toArray, List.set_cons_zero, List.set_cons_succ, i64_w, i32_w]
          rfl
        refine pure_ (i := 3) (N := some 36) (v := ?_) (a' := ?_) #[true, true, true, true, false, false, false, false, false, false, false, false, false, false, false, false, false, false] rfl rfl (by kernel_rfl) (fun _ _ _ h => h) (Or.inl ⟨by rfl, ?_⟩) ?_ ?_
        rotate_left
        · intro w'
          go_simp
          with_reducible rfl
        rotate_left
        · simp only [Act.put, List.setIfInBounds_toArray, List.set_cons_zero, List.set_cons_succ, i64_w, i32_w]
          rfl
        refine pure_ (i := 4) (N := some 37) (v := ?_) (a' := ?_) #[true, true, true, true, true, false, false, false, false, false, false, false, false, false, false, false, false, false] rfl rfl (by kernel_rfl) (fun _ _ _ h => h) (Or.inl ⟨by rfl, ?_⟩) ?_ ?_
        rotate_left
        · intro w'
          go_simp
          with_reducible rfl
        rotate_left
        · simp only [Act.put, List.setIfInBounds_toArray, List.set_cons_zero, List.set_cons_succ, i64_w, i32_w]
          rfl
        refine pure_ (i := 5) (N := some 38) (v := ?_) (a' := ?_) #[true, true, true, true, true, true, false, false, false, false, false, false, false, false, false, false, false, false] rfl rfl (by kernel_rfl) (fun _ _ _ h => h) (Or.inl ⟨by rfl, ?_⟩) ?_ ?_
        rotate_left
        · intro w'
          go_simp
          with_reducible rfl
        rotate_left
        · simp only [Act.put, List.setIfInBounds_toArray, List.set_cons_zero, List.set_cons_succ, i64_w, i32_w]
          rfl
        refine pure_ (i := 8) (N := some 41) (v := ?_) (a' := ?_) #[true, true, true, true, true, true, false, false, true, false, false, false, false, false, false, false, false, false] rfl rfl (by kernel_rfl) (fun _ _ _ h => h) (Or.inl ⟨by rfl, ?_⟩) ?_ ?_
        rotate_left
        · intro w'
          go_simp
          with_reducible rfl
        rotate_left
        · simp only [Act.put, List.setIfInBounds_toArray, List.set_cons_zero, List.set_cons_succ, i64_w, i32_w]
          rfl
        refine pure_ (i := 9) (N := some 42) (v := ?_) (a' := ?_) #[true, true, true, true, true, true, false, false, true, true, false, false, false, false, false, false, false, false] rfl rfl (by kernel_rfl) (fun _ _ _ h => h) (Or.inl ⟨by rfl, ?_⟩) ?_ ?_
        rotate_left
        · intro w'
          go_simp
          with_reducible rfl
        rotate_left
        · simp only [Act.put, List.setIfInBounds_toArray, List.set_cons_zero, List.set_cons_succ, i64_w, i32_w]
          rfl
        refine pure_ (i := 10) (N := some 43) (v := ?_) (a' := ?_) #[true, true, true, true, true, true, false, false, true, true, true, false, false, false, false, false, false, false] rfl rfl (by kernel_rfl) (fun _ _ _ h => h) (Or.inl ⟨by rfl, ?_⟩) ?_ ?_
        rotate_left
        · intro w'
          go_simp
          with_reducible rfl
        rotate_left
        · simp only [Act.put, List.setIfInBounds_toArray, List.set_cons_zero, List.set_cons_succ, i64_w, i32_w]
          rfl
        refine pure_ (i := 11) (N := some 44) (v := ?_) (a' := ?_) #[true, true, true, true, true, true, false, false, true, true, true, true, false, false, false, false, false, false] rfl rfl (by kernel_rfl) (fun _ _ _ h => h) (Or.inl ⟨by rfl, ?_⟩) ?_ ?_
        rotate_left
        · intro w'
          go_simp
          with_reducible rfl
        rotate_left
        · simp only [Act.put, List.setIfInBounds_toArray, List.set_cons_zero, List.set_cons_succ, i64_w, i32_w]
          rfl
        refine pure_ (i := 12) (N := some 45) (v := ?_) (a' := ?_) #[true, true, true, true, true, true, false, false, true, true, true, true, true, false, false, false, false, false] rfl rfl (by kernel_rfl) (fun _ _ _ h => h) (Or.inl ⟨by rfl, ?_⟩) ?_ ?_
        rotate_left
        · intro w'
          go_simp
          with_reducible rfl
        rotate_left
        · simp only [Act.put, List.setIfInBounds_toArray, List.set_cons_zero, List.set_cons_succ, i64_w, i32_w]
          rfl
        refine pure_ (i := 13) (N := some 46) (v := ?_) (a' := ?_) #[true, true, true, true, true, true, false, false, true, true, true, true, true, true, false, false, false, false] rfl rfl (by kernel_rfl) (fun _ _ _ h => h) (Or.inl ⟨by rfl, ?_⟩) ?_ ?_
        rotate_left
        · intro w'
          go_simp
          with_reducible rfl
        rotate_left
        · simp only [Act.put, List.setIfInBounds_toArray, List.set_cons_zero, List.set_cons_succ, i64_w, i32_w]
          rfl
        refine take_ (i := 6) (N := some 39) (v := ?_) (a' := ?_) #[true, true, true, true, true, true, true, false, true, true, true, true, true, true, false, false, false, false] rfl rfl (by kernel_rfl) (fun _ _ _ h => h) (Or.inl ⟨by rfl, ?_⟩) hHeld ?_ ?_
        rotate_left
        · intro w' s0
          go_simp
          with_reducible rfl
        rotate_left
        · simp only [Act.put, List.setIfInBounds_toArray, List.set_cons_zero, List.set_cons_succ, i64_w, i32_w]
          rfl
        refine take_ (i := 14) (N := some 47) (v := ?_) (a' := ?_) #[true, true, true, true, true, true, true, false, true, true, true, true, true, true, true, false, false, false] rfl rfl (by kernel_rfl) (fun _ _ _ h => h) (Or.inl ⟨by rfl, ?_⟩) hHeld ?_ ?_
        rotate_left
        · intro w' s0
          go_simp
          with_reducible rfl
        rotate_left
        · simp only [Act.put, List.setIfInBounds_toArray, List.set_cons_zero, List.set_cons_succ, i64_w, i32_w]
          rfl
        refine one_ (i := 7) (N := some 40) #[true, true, true, true, true, true, true, true, true, true, true, true, true, true, true, false, false, false] rfl rfl (by kernel_rfl) (by decide) (fun K hK => ?_)
        refine goes_ Tryd.func24 (by kernel_rfl) rfl #[v, .string key, .slice B pm pc] (by rfl) rfl rfl (by simp only [List.map_toArray, List.map_cons, List.map_nil]; rfl) ?_
        with_reducible refine (PP.out).mono ?_
        rintro e' w2 ⟨v2, rfl, t2, b2⟩
        refine ⟨_, rfl, ?_⟩
        refine hK.out _ _ ((below_cell b2 hHeld)) (fun hHeld => ?_)
        clear hK K
        refine norm_ (a' := ?_) ?_ ?_
        rotate_left
        · show Act.put _ (some 40) _ = _
          simp only [Act.put, List.setIfInBounds_toArray, List.set_cons_zero, List.set_cons_succ, i64_w, i32_w]
          rfl
        refine one_ (i := 15) (N := some 48) #[true, true, true, true, true, true, true, true, true, true, true, true, true, true, true, true, false, false] rfl rfl (by kernel_rfl) (by decide) (fun K hK => ?_)
        refine goes_ Tryd.func51 (by kernel_rfl) rfl #[.slice MA m mc, .string key, .slice B pm pc] (by rfl) rfl rfl (by simp only [List.map_toArray, List.map_cons, List.map_nil]; rfl) ?_
        with_reducible refine ((RP.out w2 b2)).mono ?_
        rintro e' w3 ⟨L', hp', A3, c3, n3, rfl, hn3, i3, b3⟩
        refine ⟨_, rfl, ?_⟩
        refine hK.out _ _ ((below_cell b3 hHeld)) (fun hHeld => ?_)
        clear hK K
        refine norm_ (a' := ?_) ?_ ?_
        rotate_left
        · show Act.put _ (some 48) _ = _
          simp only [Act.put, List.setIfInBounds_toArray, List.set_cons_zero, List.set_cons_succ, i64_w, i32_w]
          rfl
        refine pure_ (i := 16) (N := some 4) (v := ?_) (a' := ?_) #[true, true, true, true, true, true, true, true, true, true, true, true, true, true, true, true, true, false] rfl rfl (by kernel_rfl) (fun _ _ _ h => h) (Or.inl ⟨by rfl, ?_⟩) ?_ ?_
        rotate_left
        · intro w'
          go_simp
          with_reducible rfl
        rotate_left
        · simp only [Act.put, List.setIfInBounds_toArray, List.set_cons_zero, List.set_cons_succ, i64_w, i32_w]
          rfl
        refine pure_ (i := 17) (N := some 5) (v := ?_) (a' := ?_) #[true, true, true, true, true, true, true, true, true, true, true, true, true, true, true, true, true, true] rfl rfl (by kernel_rfl) (fun _ _ _ h => h) (Or.inl ⟨by rfl, ?_⟩) ?_ ?_
        rotate_left
        · intro w'
          go_simp
          with_reducible rfl
        rotate_left
        · simp only [Act.put, List.setIfInBounds_toArray, List.set_cons_zero, List.set_cons_succ, i64_w, i32_w]
          rfl
        refine done_ (by kernel_rfl) ?_
        have pn : (mapI L').Perm (putI li ⟨key, row⟩) := hp'.out.trans (List.Perm.cons _ (M1.out.2.2.2.2.2.1.filter _))
        have n3j : n3 ≤ j + 1 := by
          have h1 := putI_length li ⟨key, row⟩
          have h2 := pn.length_eq
          rw [mapI_length] at h2
          have := M1.out.len
          omega
        have c3n := i3.le hn3
        have M3 : Hid (PairOf w3 v2 A3 c3 n3 (j + 1) (putI li ⟨key, row⟩) L') := hid ⟨hn3, c3n, n3j, Tree.below t2 b3, ⟨i3.at_, (names_ready pn NN.out).1, (names_ready pn NN.out).2, i3.typed⟩, pn, NN.out⟩
        have B3 := hid (BD.out.trans ((b2.trans (b3.mono b2.size)).mono BD.out.size))
        clear PP RP hp' hn3 i3 b3 b2 t2 pn q2 M1d
        go_wp2
        go_roundw
        case rel => exact ⟨j + 1, n3, c3, v2, A3, putI li ⟨key, row⟩, L', hlt, by go_num, rfl, rfl, c3n, n3j, M3, B3⟩
        case measure => simp [intOf]; omega
    · obtain rfl : n = j := by omega
      have t1 : decide ((n : Int) < (n : Int)) = false := by simp
      have n3 := n30
      go_wp2
      go_ret2
      exact ⟨v, MA, mc, m, li, L, rfl, ⟨HM.out.1, HM.out.2.1, Nat.le_trans HM.out.2.2.1 n30, HM.out.2.2.2⟩, HB.out⟩
end Go.Proofs.YtmbgfjcmdolggaaDoor
