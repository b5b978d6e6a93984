/- The walk of of. -/
import Derived.Test.YtmbgfjcmdolggaaDoorRaw
set_option linter.unusedVariables false
set_option linter.unusedSimpArgs false
namespace Go.Proofs.YtmbgfjcmdolggaaDoor
open Go.RowKit PrintLast

theorem dig_next (ps : List Part) (k : Nat) (h : k < ps.length) : ((texts ps).take (k + 1)).map dig = ((texts ps).take k).map dig ++ [dig ps[k].2.2] := by
  rw [List.take_succ_eq_append_getElem (by rw [texts_length]; exact h), List.map_append, texts_get h]
  rfl

theorem of_end {w X : World} {S b1 j c' m' d' : Nat} {R B' : Option Addr} {P : Prf} (hS : S = w.heap.size) (hb1 : S < b1) (hL : Txt X S R c' P.side) (hn : P.side.length = j) (hj : j ≤ 20) (hm : P.row.length = m') (hB : BSA w B' d' P.row) (hX : Below S w X) {x y z u : Value} (g1 : X.heap[b1]? = some (.cells #[x, y, z, u] 30 (0, 0))) (a b cc d : Value) :
    PrfAt ((((X.setCell ⟨b1, 0, none⟩ a).setCell ⟨b1, 1, none⟩ b).setCell ⟨b1, 2, none⟩ cc).setCell ⟨b1, 3, none⟩ d) R j c' B' m' d' P ∧ Below w.heap.size w ((((X.setCell ⟨b1, 0, none⟩ a).setCell ⟨b1, 1, none⟩ b).setCell ⟨b1, 2, none⟩ cc).setCell ⟨b1, 3, none⟩ d) := by
  have hb := set4_below hX (show S ≤ b1 by omega) a b cc d
  have hl : Txt _ S R c' P.side := own_far hL (set4_keeps X b1 a b cc d) g1 (by decide)
  rw [hS] at hb
  exact ⟨⟨hn, hm, by omega, hl.at_, hB.below hb⟩, hb⟩

set_option maxRecDepth 100000 in
set_option maxHeartbeats 6400000 in
theorem of_anyB {w : World} {A B : Option Addr} {c d n m : Nat} {ps : List Part} {kd : UInt8} {key : ByteArray} {row : List UInt8} (hn : ps.length = n) (hm : row.length = m) (hr : RawAt w A c ps key B d row) (hf : FewB ps key row) :
    Calls Tryd.prog 13 #[.agg #[.slice A n c, .int .u8 (kd.toNat : Int), .string key, .slice B m d]] w fun e w' => ∃ R c' B' m' d', e = .returned (.agg #[.slice R n c', .int .u8 ((ofP ps kd key row).kind.toNat : Int), .string (ofP ps kd key row).key, .slice B' m' d']) ∧ PrfAt w' R n c' B' m' d' (ofP ps kd key row) ∧ Below w.heap.size w w' ∧ (m' = 0 ∨ B' = B) ∧ (R = none → c' = 0) := by
  obtain ⟨k3, hk3⟩ : ∃ k3, k3 = kd % 3 := ⟨_, rfl⟩
  have f3 : (kd.toNat : Int) % 3 = (k3.toNat : Int) := by rw [hk3, kd3]; omega
  have k3lt : k3.toNat < 3 := by rw [hk3, kd3]; omega
  obtain ⟨g0, g1, g2, al⟩ := alloc3 w (.cells #[.slice A n c, .int .u8 (kd.toNat : Int), .string key, .slice B m d] 25) (.cells #[.slice none 0 0, .int .u8 0, .string ⟨#[]⟩, .slice none 0 0] 30) (.cells #[.slice none 0 0, .int .u8 (k3.toNat : Int), .string ⟨#[]⟩, .slice none 0 0] 30)
  obtain ⟨S, hS⟩ : ∃ S, S = w.heap.size := ⟨_, rfl⟩
  rw [← hS] at g0 g1 g2 al
  have HS := hid hS
  have hb : n ≤ 20 := by rw [← hn]; exact hf.2.1
  have HR := hid hr
  have HN := hid (And.intro hn hm)
  have HF := hid hf
  have HK := hid hk3
  have kd256 := kd.toNat_lt
  clear hr hn hm hS hf hk3
  go_enter Tryd.func13, Tryd.ntmps13
  go_upto_region 2 with fail
  rw [← HS.out]
  try rw [f3]
  clear f3
  generalize hW : ((w.alloc (.cells #[.slice A n c, .int .u8 (kd.toNat : Int), .string key, .slice B m d] 25)).alloc (.cells #[.slice none 0 0, .int .u8 0, .string ⟨#[]⟩, .slice none 0 0] 30)).alloc (.cells #[.slice none 0 0, .int .u8 (k3.toNat : Int), .string ⟨#[]⟩, .slice none 0 0] 30) = W at *
  obtain ⟨b2, hb2⟩ : ∃ b, b = S + 1 + 1 := ⟨_, rfl⟩
  obtain ⟨b1, hb1⟩ : ∃ b, b = S + 1 := ⟨_, rfl⟩
  rw [← hb2] at g2 ⊢
  rw [← hb1] at g1 ⊢
  have o12 : b1 < b2 := by omega
  have o01 : S < b1 := by omega
  have L0 : Txt W S none 0 (((texts ps).take 0).map dig) := Txt.nil _ _
  obtain ⟨v0, v1, v2, v3, -, -, -, -⟩ := four g0
  clear hW hb1 hb2
  go_wp2
  go_loopw [4] (fun i wr => ∃ (j c' : Nat) (R : Option Addr), j ≤ n ∧ i = .int .i64 j ∧ Txt wr S R c' (((texts ps).take j).map dig) ∧ wr.heap[S]? = some (.cells #[.slice A n c, .int .u8 (kd.toNat : Int), .string key, .slice B m d] 25 (0, 0)) ∧ wr.heap[b1]? = some (.cells #[.slice none 0 0, .int .u8 0, .string ⟨#[]⟩, .slice none 0 0] 30 (0, 0)) ∧ wr.heap[b2]? = some (.cells #[.slice R j c', .int .u8 (k3.toNat : Int), .string ⟨#[]⟩, .slice none 0 0] 30 (0, 0)) ∧ Below S w wr) (fun i _ => n - (intOf i).toNat)
  case atStart => exact ⟨0, 0, none, Nat.zero_le _, rfl, L0, g0, g1, g2, al⟩
  case round =>
    clear L0 g0 g1 g2 al v0 v1 v2 v3
    obtain ⟨j, c', R, hj, rfl, hL, g0, g1, g2, hB⟩ := hrel
    have sB : S ≤ wr.heap.size := by have := lt_of_block g0; omega
    obtain ⟨v0, v1, v2, v3, -, -, -, -⟩ := four g0
    by_cases hlt : j < n
    · have t1 : decide ((j : Int) < (n : Int)) = true := by simp; omega
      have hj1 : j < ps.length := by rw [HN.out.1]; exact hlt
      obtain ⟨g, o, rfl, c1, q1⟩ := (HR.out.1.below (show Below w.heap.size w wr by rw [← HS.out]; exact hB)).at_ j hj1
      unfold partV at c1
      have NX := hid (dig_next ps j hj1)
      have x20 : ps[j].2.2.length ≤ 20 := HF.out.1 _ (by rw [← texts_get hj1]; exact List.getElem_mem _)
      obtain ⟨⟨Ax, cx, x⟩, hx⟩ : ∃ x : Part, x = ps[j] := ⟨_, rfl⟩
      rw [← hx] at c1 q1 NX x20
      obtain ⟨LS, hLS⟩ : ∃ LS, LS = ((texts ps).take j).map dig := ⟨_, rfl⟩
      rw [← hLS] at hL NX
      have LL : Hid (LS.length = j) := hid (by rw [hLS, List.length_map, List.length_take, texts_length, HN.out.1]; omega)
      have x20' : x.length ≤ 20 := x20
      have HSum := hid (rsum_dig rfl (show BSA wr.drew Ax cx x from q1) (by omega))
      have p0 := cell_at g2 (i := 0) (v := .slice R j c') rfl
      have GG := hid (And.intro g0 (And.intro g1 (And.intro g2 (And.intro hB hL))))
      have pk : ((j : Int) < (n : Int)) = True := eq_true (Int.ofNat_lt.2 hlt)
      clear hLS hx q1 g0 g1 g2 hB hL v1 v2 v3 x20
      go_wp2
      refine start_ (n := 12) (S := fun w' => w'.cell? ⟨b2, 0, none⟩ = some (.slice R j c') ∧ w'.cell? ⟨S, 0, none⟩ = some (.slice (some ⟨g, o, none⟩) n c) ∧ w'.cell? ⟨g, o + j, none⟩ = some (.slice Ax x.length cx)) (ds := [9, 11]) #[false, false, false, false, false, false, false, false, false, false, false, false] (by kernel_rfl) rfl rfl ⟨p0, v0, c1⟩ (fun hHeld => ?_)
      refine pure_ (i := 0) (N := some 16) (v := ?_) (a' := ?_) #[true, false, false, false, false, false, false, false, false, false, false, false] rfl rfl (by kernel_rfl) (fun _ _ _ h => h) (Or.inl ⟨by rfl, ?_⟩) ?_ ?_
      rotate_left
      · intro w'
        go_simp
        with_reducible rfl
      rotate_left
      · simp only [Act.put, List.setIfInBounds_toArray, List.set_cons_zero, List.set_cons_succ, i64_w, i32_w]
        rfl
      refine pure_ (i := 2) (N := some 18) (v := ?_) (a' := ?_) #[true, false, true, false, false, false, false, false, false, false, false, false] rfl rfl (by kernel_rfl) (fun _ _ _ h => h) (Or.inl ⟨by rfl, ?_⟩) ?_ ?_
      rotate_left
      · intro w'
        go_simp
        with_reducible rfl
      rotate_left
      · simp only [Act.put, List.setIfInBounds_toArray, List.set_cons_zero, List.set_cons_succ, i64_w, i32_w]
        rfl
      refine pure_ (i := 4) (N := some 20) (v := ?_) (a' := ?_) #[true, false, true, false, true, false, false, false, false, false, false, false] rfl rfl (by kernel_rfl) (fun _ _ _ h => h) (Or.inl ⟨by rfl, ?_⟩) ?_ ?_
      rotate_left
      · intro w'
        go_simp
        with_reducible rfl
      rotate_left
      · simp only [Act.put, List.setIfInBounds_toArray, List.set_cons_zero, List.set_cons_succ, i64_w, i32_w]
        rfl
      refine take_ (i := 1) (N := some 17) (v := ?_) (a' := ?_) #[true, true, true, false, true, false, false, false, false, false, false, false] rfl rfl (by kernel_rfl) (fun _ _ _ h => h) (Or.inl ⟨by rfl, ?_⟩) hHeld ?_ ?_
      rotate_left
      · rintro w' ⟨s0, s1, s2⟩
        go_simp
        with_reducible rfl
      rotate_left
      · simp only [Act.put, List.setIfInBounds_toArray, List.set_cons_zero, List.set_cons_succ, i64_w, i32_w]
        rfl
      refine take_ (i := 3) (N := some 19) (v := ?_) (a' := ?_) #[true, true, true, true, true, false, false, false, false, false, false, false] rfl rfl (by kernel_rfl) (fun _ _ _ h => h) (Or.inl ⟨by rfl, ?_⟩) hHeld ?_ ?_
      rotate_left
      · rintro w' ⟨s0, s1, s2⟩
        go_simp
        with_reducible rfl
      rotate_left
      · simp only [Act.put, List.setIfInBounds_toArray, List.set_cons_zero, List.set_cons_succ, i64_w, i32_w]
        rfl
      refine pure_ (i := 5) (N := some 21) (v := ?_) (a' := ?_) #[true, true, true, true, true, true, false, false, false, false, false, false] rfl rfl (by kernel_rfl) (fun _ _ _ h => h) (Or.inl ⟨by rfl, ?_⟩) ?_ ?_
      rotate_left
      · intro w'
        go_simp
        with_reducible rfl
      rotate_left
      · simp only [Act.put, List.setIfInBounds_toArray, List.set_cons_zero, List.set_cons_succ, i64_w, i32_w]
        rfl
      refine take_ (i := 6) (N := some 22) (v := ?_) (a' := ?_) #[true, true, true, true, true, true, true, false, false, false, false, false] rfl rfl (by kernel_rfl) (fun _ _ _ h => h) (Or.inl ⟨by rfl, ?_⟩) hHeld ?_ ?_
      rotate_left
      · rintro w' ⟨s0, s1, s2⟩
        go_simp
        with_reducible rfl
      rotate_left
      · simp only [Act.put, List.setIfInBounds_toArray, List.set_cons_zero, List.set_cons_succ, i64_w, i32_w]
        rfl
      refine one_ (i := 7) (N := some 23) #[true, true, true, true, true, true, true, true, false, false, false, false] rfl rfl (by kernel_rfl) (by decide) (fun K hK => ?_)
      refine goes_ Tryd.func31 (by kernel_rfl) rfl #[.slice Ax x.length cx] (by rfl) rfl rfl (by simp only [List.map_toArray, List.map_cons, List.map_nil]; rfl) ?_
      with_reducible refine (HSum.out).mono ?_
      rintro e' w1 ⟨rfl, y⟩
      refine ⟨_, rfl, ?_⟩
      have y0 := below_heap y (show wr.drew.heap[S]? = _ from GG.out.1)
      have y1 := below_heap y (show wr.drew.heap[b1]? = _ from GG.out.2.1)
      have y2 := below_heap y (show wr.drew.heap[b2]? = _ from GG.out.2.2.1)
      have yL := (show Txt wr.drew S R c' LS from GG.out.2.2.2.2).below y
      have yB : Below S w w1 := GG.out.2.2.2.1.drew.trans (y.mono sB)
      have ys : S ≤ w1.heap.size := by have := lt_of_block y0; omega
      refine hK.out _ _ ⟨(below_cell y hHeld.1), (below_cell y hHeld.2.1), (below_cell y hHeld.2.2)⟩ (fun hHeld => ?_)
      clear hK K
      refine norm_ (a' := ?_) ?_ ?_
      rotate_left
      · show Act.put _ (some 23) _ = _
        simp only [Act.put, List.setIfInBounds_toArray, List.set_cons_zero, List.set_cons_succ, i64_w, i32_w]
        rfl
      refine one_ (i := 8) (N := some 24) #[true, true, true, true, true, true, true, true, true, false, false, false] rfl rfl (by kernel_rfl) (by decide) (fun K hK => ?_)
      refine value_ (w1 := ?_) (v := ?_) (by rfl) rfl ?_ ?_
      rotate_left 2
      · go_simp
        constructor
        · rfl
        · rfl
      have al0 := below_alloc (Below.refl _ w1) (.cells #[.string (dig x)] 9)
      refine hK.out _ _ ⟨(below_cell al0 hHeld.1), (below_cell al0 hHeld.2.1), (below_cell al0 hHeld.2.2)⟩ (fun hHeld => ?_)
      clear hK K
      refine norm_ (a' := ?_) ?_ ?_
      rotate_left
      · show Act.put _ (some 24) _ = _
        simp only [Act.put, List.setIfInBounds_toArray, List.set_cons_zero, List.set_cons_succ, i64_w, i32_w]
        rfl
      refine last_ (i := 9) (N := some 25) #[true, true, true, true, true, true, true, true, true, true, false, false] rfl rfl (by kernel_rfl) (by decide) (fun K hK => ?_)
      refine step_appT rfl (.tmp 17) (.tmp 24) rfl S (Nat.le_trans ys al0.size) R c' j LS rfl LL.out (yL.below al0) _ (dig x) rfl (cell_at (heap_alloc_new _ _) rfl) (by omega) ?_
      intro R2 c2 w2 m1 m2 m3
      have e2 := (yL.below al0).beside LL.out m2 (below_heap al0 y2) (by decide)
      have e1 := (yL.below al0).beside LL.out m2 (below_heap al0 y1) (by decide)
      have e0 := (yL.below al0).beside LL.out m2 (below_heap al0 y0) (by decide)
      have eB := (yL.below al0).grew LL.out m2 (yB.alloc ys _) (Nat.le_trans ys al0.size)
      have d0 := cell_at e2 (i := 0) (v := .slice R j c') rfl
      have d1 := free_at e2 0
      refine hK.out _ _ ?_
      clear hK K
      refine norm_ (a' := ?_) ?_ ?_
      rotate_left
      · show Act.put _ (some 25) _ = _
        simp only [Act.put, List.setIfInBounds_toArray, List.set_cons_zero, List.set_cons_succ, i64_w, i32_w]
        rfl
      refine pure_ (i := 10) (N := some 26) (v := ?_) (a' := ?_) #[true, true, true, true, true, true, true, true, true, true, true, false] rfl rfl (by kernel_rfl) (fun _ _ _ h => h) (Or.inl ⟨by rfl, ?_⟩) ?_ ?_
      rotate_left
      · intro w'
        go_simp
        with_reducible rfl
      rotate_left
      · simp only [Act.put, List.setIfInBounds_toArray, List.set_cons_zero, List.set_cons_succ, i64_w, i32_w]
        rfl
      refine last_ (i := 11) (N := none) #[true, true, true, true, true, true, true, true, true, true, true, true] rfl rfl (by kernel_rfl) (by decide) (fun K hK => ?_)
      refine skip_ (w1 := ?_) (by rfl) rfl ?_ ?_
      rotate_left
      · go_simp
        rfl
      refine hK.out _ _ ?_
      clear hK K
      refine done_ (by kernel_rfl) ?_
      have e2' : (w2.setCell ⟨b2, 0, none⟩ (.slice R2 (j + 1) c2)).heap[b2]? = some (.cells #[.slice R2 (j + 1) c2, .int .u8 (k3.toNat : Int), .string ⟨#[]⟩, .slice none 0 0] 30 (0, 0)) := by rw [heap_set e2]; rfl
      have e1' := (keeps_one w2 b2 0 (.slice R2 (j + 1) c2)).heap e1 (by omega)
      have e0' := (keeps_one w2 b2 0 (.slice R2 (j + 1) c2)).heap e0 (by omega)
      have eL' := m1.far (keeps_one w2 b2 0 (.slice R2 (j + 1) c2)) e2 (by decide)
      have eB' := eB.setCell (p := ⟨b2, 0, none⟩) (show S ≤ b2 by omega) (.slice R2 (j + 1) c2)
      have NX' := NX.out
      rw [← NX'] at eL'
      clear m1 m2 m3 e2 e1 e0 eB d0 d1 al0 GG NX NX' v0 p0 c1 pk y0 y1 y2 yL yB ys sB HSum y
      generalize w2.setCell ⟨b2, 0, none⟩ (.slice R2 (j + 1) c2) = w3 at *
      go_wp2
      go_roundw
      case rel => exact ⟨j + 1, c2, R2, hlt, by go_num, eL', e0', e1', e2', eB'⟩
      case measure => simp [intOf]; omega
    · obtain rfl : j = n := by omega
      have t1 : decide ((j : Int) < (j : Int)) = false := by simp
      have e1 : (texts ps).take j = texts ps := List.take_of_length_le (by rw [texts_length]; exact Nat.le_of_eq HN.out.1)
      rw [e1] at hL
      have PK : Hid ((ofP ps kd key row).kind = k3) := hid HK.out.symm
      have CN : Hid (R = none → c' = 0) := hid (fun e => by
        rcases hL.2 with ⟨e1, _⟩ | ⟨g9, cap9, cur9, e1, _⟩
        · exact (Value.slice.inj e1).2.2
        · rw [e] at e1; cases (Value.slice.inj e1).1)
      have HB := hid hB
      have rB : BSA w B d row := HR.out.2.2.2.2
      obtain ⟨u0, u1, u2, u3, u0', u1', u2', u3'⟩ := four g1
      obtain ⟨p0, p1, p2, p3, p0', p1', p2', p3'⟩ := four g2
      rcases kind_three (k := k3) (by omega) with hk | hk | hk
      · have t2 : ((k3.toNat : Int) == 2) = false := by rw [hk]; rfl
        have t3 : decide ((0 : Int) < (k3.toNat : Int)) = false := by rw [hk]; rfl
        have t3' : decide (0 < k3.toNat) = false := by rw [hk]; rfl
        have HKK := hid hk
        clear hk
        go_upto_region 10 with fail
        have E := hid (of_end (P := ofP ps kd key row) HS.out o01 hL (by show ((texts ps).map dig).length = j; rw [List.length_map, texts_length, HN.out.1]) hb (by show (if kd % 3 = 0 then [] else row).length = 0; rw [← HK.out, HKK.out]; rfl) (by show BSA w none 0 (if kd % 3 = 0 then [] else row); rw [← HK.out, HKK.out]; exact BSA.nil w) hB g1 (.slice R j c') (.int .u8 (k3.toNat : Int)) (.string ⟨#[]⟩) (.slice none 0 0))
        have G := hid (set4_heap (a := .slice R j c') (b := .int .u8 (k3.toNat : Int)) (c := .string ⟨#[]⟩) (d := .slice none 0 0) g1)
        have KY : Hid ((ofP ps kd key row).key = ⟨#[]⟩) := hid (by show (if kd % 3 = 2 then key else (⟨#[]⟩ : ByteArray)) = _; rw [← HK.out, HKK.out]; rfl)
        clear u0 u1 u2 u3 u0' u1' u2' u3' p0 p1 p2 p3 p0' p1' p2' p3'
        obtain ⟨u0, u1, u2, u3, u0', u1', u2', u3'⟩ := four g1
        obtain ⟨p0, p1, p2, p3, p0', p1', p2', p3'⟩ := four g2
        clear g0 g1 g2 hL hB HB
        go_wp2
        refine bodyPost_ret (ret_cell_one rfl rfl G.out Tryd.underlying30 rfl infPP) rfl ?_
        exact ⟨R, c', none, 0, 0, by rw [PK.out, KY.out], E.out.1, E.out.2, .inl rfl, CN.out⟩
      · have t2 : ((k3.toNat : Int) == 2) = false := by rw [hk]; rfl
        have t3 : decide ((0 : Int) < (k3.toNat : Int)) = true := by rw [hk]; rfl
        have t3' : decide (0 < k3.toNat) = true := by rw [hk]; rfl
        have HKK := hid hk
        clear hk
        have x02 : (wr.setCell ⟨b2, 3, none⟩ (.slice B m d)).heap[b2]? = some (.cells #[.slice R j c', .int .u8 (k3.toNat : Int), .string ⟨#[]⟩, .slice B m d] 30 (0, 0)) := by rw [heap_set g2]; rfl
        have x01 := (keeps_one wr b2 3 (.slice B m d)).heap g1 (by omega)
        have x0L := hL.far (keeps_one wr b2 3 (.slice B m d)) g2 (by decide)
        have x0B := hB.setCell (p := ⟨b2, 3, none⟩) (show S ≤ b2 by omega) (.slice B m d)
        go_upto_region 10 with fail
        generalize (wr.setCell ⟨b2, 3, none⟩ (.slice B m d)) = X at *
        have E := hid (of_end (P := ofP ps kd key row) HS.out o01 x0L (by show ((texts ps).map dig).length = j; rw [List.length_map, texts_length, HN.out.1]) hb (by show (if kd % 3 = 0 then [] else row).length = m; rw [← HK.out, HKK.out]; exact HN.out.2) (by show BSA w B d (if kd % 3 = 0 then [] else row); rw [← HK.out, HKK.out]; exact rB) x0B x01 (.slice R j c') (.int .u8 (k3.toNat : Int)) (.string ⟨#[]⟩) (.slice B m d))
        have G := hid (set4_heap (a := .slice R j c') (b := .int .u8 (k3.toNat : Int)) (c := .string ⟨#[]⟩) (d := .slice B m d) x01)
        have KY : Hid ((ofP ps kd key row).key = ⟨#[]⟩) := hid (by show (if kd % 3 = 2 then key else (⟨#[]⟩ : ByteArray)) = _; rw [← HK.out, HKK.out]; rfl)
        clear u0 u1 u2 u3 u0' u1' u2' u3' p0 p1 p2 p3 p0' p1' p2' p3'
        obtain ⟨u0, u1, u2, u3, u0', u1', u2', u3'⟩ := four x01
        obtain ⟨p0, p1, p2, p3, p0', p1', p2', p3'⟩ := four x02
        clear g0 g1 g2 hL hB HB x02 x01 x0L x0B
        go_wp2
        refine bodyPost_ret (ret_cell_one rfl rfl G.out Tryd.underlying30 rfl infPP) rfl ?_
        exact ⟨R, c', B, m, d, by rw [PK.out, KY.out], E.out.1, E.out.2, .inr rfl, CN.out⟩
      · have t2 : ((k3.toNat : Int) == 2) = true := by rw [hk]; rfl
        have t3 : decide ((0 : Int) < (k3.toNat : Int)) = true := by rw [hk]; rfl
        have t3' : decide (0 < k3.toNat) = true := by rw [hk]; rfl
        have HKK := hid hk
        clear hk
        have x02 : (wr.setCell ⟨b2, 2, none⟩ (.string key)).heap[b2]? = some (.cells #[.slice R j c', .int .u8 (k3.toNat : Int), .string key, .slice none 0 0] 30 (0, 0)) := by rw [heap_set g2]; rfl
        have x01 := (keeps_one wr b2 2 (.string key)).heap g1 (by omega)
        have x0L := hL.far (keeps_one wr b2 2 (.string key)) g2 (by decide)
        have x0B := hB.setCell (p := ⟨b2, 2, none⟩) (show S ≤ b2 by omega) (.string key)
        have x12 : ((wr.setCell ⟨b2, 2, none⟩ (.string key)).setCell ⟨b2, 3, none⟩ (.slice B m d)).heap[b2]? = some (.cells #[.slice R j c', .int .u8 (k3.toNat : Int), .string key, .slice B m d] 30 (0, 0)) := by rw [heap_set x02]; rfl
        have x11 := (keeps_one (wr.setCell ⟨b2, 2, none⟩ (.string key)) b2 3 (.slice B m d)).heap x01 (by omega)
        have x1L := x0L.far (keeps_one (wr.setCell ⟨b2, 2, none⟩ (.string key)) b2 3 (.slice B m d)) x02 (by decide)
        have x1B := x0B.setCell (p := ⟨b2, 3, none⟩) (show S ≤ b2 by omega) (.slice B m d)
        go_upto_region 10 with fail
        generalize ((wr.setCell ⟨b2, 2, none⟩ (.string key)).setCell ⟨b2, 3, none⟩ (.slice B m d)) = X at *
        have E := hid (of_end (P := ofP ps kd key row) HS.out o01 x1L (by show ((texts ps).map dig).length = j; rw [List.length_map, texts_length, HN.out.1]) hb (by show (if kd % 3 = 0 then [] else row).length = m; rw [← HK.out, HKK.out]; exact HN.out.2) (by show BSA w B d (if kd % 3 = 0 then [] else row); rw [← HK.out, HKK.out]; exact rB) x1B x11 (.slice R j c') (.int .u8 (k3.toNat : Int)) (.string key) (.slice B m d))
        have G := hid (set4_heap (a := .slice R j c') (b := .int .u8 (k3.toNat : Int)) (c := .string key) (d := .slice B m d) x11)
        have KY : Hid ((ofP ps kd key row).key = key) := hid (by show (if kd % 3 = 2 then key else (⟨#[]⟩ : ByteArray)) = _; rw [← HK.out, HKK.out]; rfl)
        clear u0 u1 u2 u3 u0' u1' u2' u3' p0 p1 p2 p3 p0' p1' p2' p3'
        obtain ⟨u0, u1, u2, u3, u0', u1', u2', u3'⟩ := four x11
        obtain ⟨p0, p1, p2, p3, p0', p1', p2', p3'⟩ := four x12
        clear g0 g1 g2 hL hB HB x02 x01 x0L x0B x12 x11 x1L x1B
        go_wp2
        refine bodyPost_ret (ret_cell_one rfl rfl G.out Tryd.underlying30 rfl infPP) rfl ?_
        exact ⟨R, c', B, m, d, by rw [PK.out, KY.out], E.out.1, E.out.2, .inr rfl, CN.out⟩
theorem of_any {w : World} {A B : Option Addr} {c d n m : Nat} {ps : List Part} {kd : UInt8} {key : ByteArray} {row : List UInt8} (hn : ps.length = n) (hm : row.length = m) (hr : RawAt w A c ps key B d row) (hf : FewB ps key row) :
    Calls Tryd.prog 13 #[.agg #[.slice A n c, .int .u8 (kd.toNat : Int), .string key, .slice B m d]] w fun e w' => ∃ R c' B' m' d', e = .returned (.agg #[.slice R n c', .int .u8 ((ofP ps kd key row).kind.toNat : Int), .string (ofP ps kd key row).key, .slice B' m' d']) ∧ PrfAt w' R n c' B' m' d' (ofP ps kd key row) ∧ Below w.heap.size w w' :=
  (of_anyB hn hm hr hf).mono (fun e w' ⟨R, c', B', m', d', h1, h2, h3, _⟩ => ⟨R, c', B', m', d', h1, h2, h3⟩)
end Go.Proofs.YtmbgfjcmdolggaaDoor
