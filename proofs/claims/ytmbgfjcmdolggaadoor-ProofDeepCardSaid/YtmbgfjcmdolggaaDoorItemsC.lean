/- The reference's Half and Digest. -/
import Derived.Test.YtmbgfjcmdolggaaDoorItemsB
set_option linter.unusedVariables false
set_option linter.unusedSimpArgs false
namespace Go.Proofs.YtmbgfjcmdolggaaDoor
open Go.RowKit PrintLast

theorem rsumK {w : World} {g c : Nat} {k : ByteArray} (hk : k.size ≤ 1000000) (hp : BSA w (some ⟨g, 0, none⟩) c k.data.toList) :
    Calls Tryd.prog 31 #[.slice (some ⟨g, 0, none⟩) k.size c] w fun e w' => e = .returned (.string (pathS k)) ∧ Below w.heap.size w w' := rsum_dig (bsz k) hp (by rw [bsz]; omega)
theorem rbitK {w : World} {k : ByteArray} {d : Nat} (hd : d ≤ 1000000) :
    Calls Tryd.prog 30 #[.string (pathS k), .int .i64 (d : Int)] w fun e w' => e = .returned (.int .i64 (btK k d)) ∧ w = w' := by
  have := rbit_any (w := w) (s := pathS k) (i := (d : Int)) (by rw [pathS_list, path_length]; omega) ⟨by omega, by omega⟩
  rw [pathS_list] at this
  exact this

set_option maxRecDepth 100000 in
set_option maxHeartbeats 6400000 in
theorem rhalf_any {w : World} {A : Option Addr} {c n d : Nat} {l : List RI} {b : Int} (hn : l.length = n) (h : ItAt w A l) (hkk : KeysOk l) (hc : n ≤ c) (hb : n ≤ 1000000) (hd : d ≤ 1000000) :
    Calls Tryd.prog 53 #[.slice A n c, .int .i64 (d : Int), .int .i64 b] w (GaveI w (halfR l d b)) := by
  obtain ⟨S, hS⟩ : ∃ S, S = w.heap.size := ⟨_, rfl⟩
  have HS := hid hS
  have HH := hid h
  have HN := hid hn
  have KK := hid hkk
  have I0 := Its.nil w S
  have B0 := Below.refl S w
  have s0 : S ≤ w.heap.size := by omega
  clear h hn hS hkk
  go_enter Tryd.func53, Tryd.ntmps53
  go_wp2
  go_loopw [7, 8] (fun o i wr => ∃ (j m c' : Nat) (R : Option Addr) (L : List RI), j ≤ n ∧ i = .int .i64 j ∧ o = .slice R m c' ∧ L.length = m ∧ m ≤ j ∧ Hid (L = halfR (l.take j) d b) ∧ Its wr S R c' L ∧ S ≤ wr.heap.size ∧ Below S w wr) (fun _ i _ => n - (intOf i).toNat)
  case atStart => exact ⟨0, 0, 0, none, [], Nat.zero_le _, rfl, rfl, rfl, Nat.le_refl _, hid rfl, I0, s0, B0⟩
  case round =>
    clear I0 B0 s0
    obtain ⟨j, m, c', R, L, hj, rfl, rfl, hm, hmj, hL, hI, hs, hB⟩ := hrel
    have HM := hid hm
    have II := hid (And.intro hI hB)
    clear hm hI hB
    by_cases hlt : j < n
    · have t1 : decide ((j : Int) < (n : Int)) = true := by simp; omega
      have t1' : decide (j < n) = true := by simp; omega
      have jl : j < l.length := by have := HN.out; omega
      have hat := HH.out.below (show Below w.heap.size w wr from HS.out ▸ II.out.2)
      obtain ⟨g, o, rfl, q0, q1⟩ := hat.at_ j jl
      obtain ⟨x, hx⟩ : ∃ x, x = l[j] := ⟨_, rfl⟩
      rw [← hx] at q0 q1
      have RX := hid (show Row wr 0 x.A x.c x.row from hat.2.2 x (by rw [hx]; exact List.getElem_mem jl))
      have kx : x.key.size ≤ 1000000 := KK.out x (by rw [hx]; exact List.getElem_mem jl)
      obtain ⟨xk, hxk⟩ : ∃ xk, xk = x.key := ⟨_, rfl⟩
      obtain ⟨xm, hxm⟩ : ∃ xm, xm = x.row.length := ⟨_, rfl⟩
      rw [← hxk] at q0 kx
      rw [← hxm] at q1
      have HX := hid (And.intro hx (And.intro hxk hxm))
      have ks : xk.size ≤ maxLen := by unfold maxLen; omega
      clear hat hx hxk hxm
      go_wp2_with (refine wpList_conv rfl (.tmp 19) rfl xk rfl ks ?_)
      intro g1 c1 w1 _ z1 b1
      have H := hid (rsumK kx z1)
      have Q0 := hid (below_cell b1 q0)
      have Q1 := hid (below_cell b1 q1)
      replace RX := hid (RX.out.below b1)
      replace II := hid (And.intro (II.out.1.below b1) (II.out.2.trans (b1.mono hs)))
      have s1 : S ≤ w1.heap.size := Nat.le_trans hs b1.size
      clear b1 z1 q0 q1 ks
      go_wp2_with fail
      refine H.out.mono ?_
      rintro e w2 ⟨rfl, b2⟩
      have q0 := below_cell b2 Q0.out
      have q1 := below_cell b2 Q1.out
      replace RX := hid (RX.out.below b2)
      replace II := hid (And.intro (II.out.1.below b2) (II.out.2.trans (b2.mono s1)))
      have s2 : S ≤ w2.heap.size := Nat.le_trans s1 b2.size
      clear b2 H Q0 Q1 s1
      have H0 := rbitK (w := w2) (k := xk) (d := d) hd
      obtain ⟨bt, hbt⟩ : ∃ bt, bt = btK xk d := ⟨_, rfl⟩
      rw [← hbt] at H0
      have H := hid H0
      have HBT := hid hbt
      clear H0 hbt
      by_cases hk : bt = b
      · have t2 : (bt == b) = true := by simp [hk]
        have NX := hid (show L ++ [x] = halfR (l.take (j + 1)) d b by
          have jl : j < l.length := by have := HN.out; omega
          have e := filter_next l (fun x => btK x.key d == b) j jl
          have hk' : btK l[j].key d = b := by rw [← HX.out.1, ← HX.out.2.1, ← HBT.out, hk]
          rw [if_pos (by simp [hk'])] at e
          rw [hL.out, HX.out.1]
          exact e.symm)
        clear hk hL
        go_wp2_with fail
        refine H.out.mono ?_
        rintro e w3 ⟨rfl, rfl⟩
        go_wp2_with (refine wpList_appI rfl (.tmp 26) (.tmp 31) rfl S (Nat.le_trans s2 (below_alloc (Below.refl _ w2) (.cells #[.string xk, .slice x.A xm x.c] 91)).size) R c' m L rfl HM.out (II.out.1.below (below_alloc (Below.refl _ w2) _)) w2.heap.size x xm rfl HX.out.2.2.symm (by rw [← HX.out.2.1]; exact cell_at (heap_alloc_new _ _) rfl) (cell_at (heap_alloc_new _ _) rfl) (RX.out.below (below_alloc (Below.refl _ w2) _)) (by omega) ?_)
        intro R2 c2 w4 i2 b2
        have HI2 := hid i2
        have B2 : Below S w w4 := II.out.2.trans (((Below.refl S w2).alloc s2 _).trans b2)
        have s4 : S ≤ w4.heap.size := Nat.le_trans s2 (Nat.le_trans (below_alloc (Below.refl _ w2) (.cells #[.string xk, .slice x.A xm x.c] 91)).size b2.size)
        have HM2 := hid (show (L ++ [x]).length = m + 1 by rw [List.length_append, List.length_singleton, HM.out])
        have hmj' : m + 1 ≤ j + 1 := by omega
        clear i2 b2 q0 q1
        go_wp2
        go_roundw
        case rel => exact ⟨j + 1, m + 1, c2, R2, L ++ [x], hlt, by go_num, rfl, HM2.out, hmj', NX, HI2.out, s4, B2⟩
        case measure => simp [intOf]; omega
      · have t2 : (bt == b) = false := by simp [hk]
        have NX := hid (show L = halfR (l.take (j + 1)) d b by
          have jl : j < l.length := by have := HN.out; omega
          have e := filter_next l (fun x => btK x.key d == b) j jl
          have hk' : ¬ btK l[j].key d = b := by rw [← HX.out.1, ← HX.out.2.1, ← HBT.out]; exact hk
          rw [if_neg (by simp [hk'])] at e
          rw [hL.out]
          exact e.symm)
        have hmj' : m ≤ j + 1 := by omega
        clear hk hL
        go_wp2_with fail
        refine H.out.mono ?_
        rintro e w3 ⟨rfl, rfl⟩
        go_wp2
        go_roundw
        case rel => exact ⟨j + 1, m, c', R, L, hlt, by go_num, rfl, HM.out, hmj', NX, II.out.1, s2, II.out.2⟩
        case measure => simp [intOf]; omega
    · obtain rfl : n = j := by omega
      have t1 : decide ((n : Int) < (n : Int)) = false := by simp
      have E := hid (show L = halfR l d b by rw [hL.out, List.take_of_length_le (Nat.le_of_eq HN.out)])
      clear hL
      go_wp2
      go_ret
      refine ⟨R, c', m, rfl, ?_, ?_, ?_⟩
      · rw [← E.out]; exact HM.out
      · rw [← E.out, ← HS.out]; exact II.out.1
      · rw [← HS.out]; exact II.out.2

/-! ### Digest -/
theorem half_keys {l : List RI} {d : Nat} {b : Int} (h : KeysOk l) : KeysOk (halfR l d b) := fun x hx => h x (List.mem_filter.1 hx).1
def RowsOk (l : List RI) : Prop := ∀ x ∈ l, x.row.length ≤ 1000000
theorem half_rows {l : List RI} {d : Nat} {b : Int} (h : RowsOk l) : RowsOk (halfR l d b) := fun x hx => h x (List.mem_filter.1 hx).1
theorem halfR_length (l : List RI) (d : Nat) (b : Int) : (halfR l d b).length ≤ l.length := List.length_filter_le _ _
def mapI (l : List RI) : List Itm := l.map RI.itm

set_option maxRecDepth 100000 in
set_option maxHeartbeats 6400000 in
theorem rdig_none {w : World} {A : Option Addr} {c : Nat} {d : Int} :
    Calls Tryd.prog 52 #[.slice A 0 c, .int .i64 d] w fun e w' => e = .returned (.string (digS .nil)) ∧ Below w.heap.size w w' := by
  have H := hid (rempty_any (w := w))
  go_enter Tryd.func52, Tryd.ntmps52
  go_wp2_with fail
  refine H.out.mono ?_
  rintro e w1 ⟨rfl, b1⟩
  go_wp2
  go_ret
  exact ⟨rfl, b1⟩
set_option maxRecDepth 100000 in
set_option maxHeartbeats 6400000 in
theorem rdig_leaf {w : World} {g o c n d : Nat} {x : RI} (hn : 0 < n) (hc : n ≤ c) (hb : n ≤ 1000000) (q0 : w.cell? ⟨g, o, none⟩ = some (.string x.key)) (q1 : w.cell? ⟨g, o + 1, none⟩ = some (.slice x.A x.row.length x.c)) (hr : Row w 0 x.A x.c x.row) (hk : x.key.size ≤ 1000000) (hm : x.row.length ≤ 1000000) (hd : d ≤ 256) (h1 : n = 1 ∨ 255 < d) :
    Calls Tryd.prog 52 #[.slice (some ⟨g, o, none⟩) n c, .int .i64 (d : Int)] w fun e w' => e = .returned (.string (digS (.leaf x.itm))) ∧ Below w.heap.size w w' := by
  have t0 : ((n : Int) == 0) = false := by rw [beq_eq_false_iff_ne]; omega
  have al := hr.bsa
  obtain ⟨xk, hxk⟩ : ∃ xk, xk = x.key := ⟨_, rfl⟩
  obtain ⟨xm, hxm⟩ : ∃ xm, xm = x.row.length := ⟨_, rfl⟩
  have ED : Hid (dig (leafB xk.data.toList x.row) = digS (.leaf x.itm)) := hid (by rw [hxk]; rfl)
  rw [← hxk] at q0 hk
  rw [← hxm] at q1 hm
  obtain ⟨LB, hLB⟩ : ∃ LB, LB = leafB xk.data.toList x.row := ⟨_, rfl⟩
  obtain ⟨ln, hln⟩ : ∃ ln, ln = LB.length := ⟨_, rfl⟩
  have hlb : ln ≤ 1000000000000 := by rw [hln, hLB, leafB_length]; simp; omega
  have HL : Hid (Calls Tryd.prog 68 #[.string xk, .slice x.A xm x.c] w.drew fun e w' => ∃ A' c', e = .returned (.slice A' ln c') ∧ BSA w' A' c' LB ∧ Below w.drew.heap.size w.drew w') := hid (by
    have H := rleafBytes_any (a := xk) (A := x.A) (c := x.c) (r := x.row) hk (by omega) (show BSA w.drew x.A x.c x.row from al)
    rw [← hxm] at H
    refine H.mono ?_
    rintro e w' ⟨A', c', rfl, h1, h2⟩
    exact ⟨A', c', by rw [hln, hLB], by rw [hLB]; exact h1.bsa, h2⟩)
  have HD : Hid (dig LB = digS (.leaf x.itm)) := hid (by rw [hLB]; exact ED.out)
  have HS := hid (fun (w1 : World) (A' : Option Addr) (c' : Nat) (h1 : BSA w1 A' c' LB) => rsum_dig hln.symm h1 (by omega))
  have t3 : decide (0 < n) = true := by simp; omega
  have t4 : decide ((0 : Int) < (n : Int)) = true := by simp; omega
  clear hr al hxk hxm hLB hln hlb hk hm ED
  by_cases hn1 : n = 1
  · have t1 : ((n : Int) == 1) = true := by rw [beq_iff_eq]; omega
    clear hn1 h1
    go_enter Tryd.func52, Tryd.ntmps52
    go_wp2
    refine start_ (n := 11) (S := fun w' => w'.cell? ⟨g, o, none⟩ = some (.string xk) ∧ w'.cell? ⟨g, o + 1, none⟩ = some (.slice x.A xm x.c)) (ds := []) #[false, false, false, false, false, false, false, false, false, false, false] (by kernel_rfl) rfl rfl ⟨q0, q1⟩ (fun hHeld => ?_)
    refine pure_ (i := 0) (N := some 16) (v := ?_) (a' := ?_) #[true, false, false, false, false, false, false, false, false, false, false] rfl rfl (by kernel_rfl) (fun _ _ _ h => h) (Or.inl ⟨by rfl, ?_⟩) ?_ ?_
    rotate_left
    · intro w'
      go_simp
      with_reducible rfl
    rotate_left
    · simp only [Act.put, List.setIfInBounds_toArray, List.set_cons_zero, List.set_cons_succ, i64_w, i32_w]
      rfl
    refine pure_ (i := 1) (N := some 17) (v := ?_) (a' := ?_) #[true, true, false, false, false, false, false, false, false, false, false] rfl rfl (by kernel_rfl) (fun _ _ _ h => h) (Or.inl ⟨by rfl, ?_⟩) ?_ ?_
    rotate_left
    · intro w'
      go_simp
      with_reducible rfl
    rotate_left
    · simp only [Act.put, List.setIfInBounds_toArray, List.set_cons_zero, List.set_cons_succ, i64_w, i32_w]
      rfl
    refine pure_ (i := 2) (N := some 18) (v := ?_) (a' := ?_) #[true, true, true, false, false, false, false, false, false, false, false] rfl rfl (by kernel_rfl) (fun _ _ _ h => h) (Or.inl ⟨by rfl, ?_⟩) ?_ ?_
    rotate_left
    · intro w'
      go_simp
      with_reducible rfl
    rotate_left
    · simp only [Act.put, List.setIfInBounds_toArray, List.set_cons_zero, List.set_cons_succ, i64_w, i32_w]
      rfl
    refine pure_ (i := 4) (N := some 20) (v := ?_) (a' := ?_) #[true, true, true, false, true, false, false, false, false, false, false] rfl rfl (by kernel_rfl) (fun _ _ _ h => h) (Or.inl ⟨by rfl, ?_⟩) ?_ ?_
    rotate_left
    · intro w'
      go_simp
      with_reducible rfl
    rotate_left
    · simp only [Act.put, List.setIfInBounds_toArray, List.set_cons_zero, List.set_cons_succ, i64_w, i32_w]
      rfl
    refine pure_ (i := 5) (N := some 21) (v := ?_) (a' := ?_) #[true, true, true, false, true, true, false, false, false, false, false] rfl rfl (by kernel_rfl) (fun _ _ _ h => h) (Or.inl ⟨by rfl, ?_⟩) ?_ ?_
    rotate_left
    · intro w'
      go_simp
      with_reducible rfl
    rotate_left
    · simp only [Act.put, List.setIfInBounds_toArray, List.set_cons_zero, List.set_cons_succ, i64_w, i32_w]
      rfl
    refine pure_ (i := 6) (N := some 22) (v := ?_) (a' := ?_) #[true, true, true, false, true, true, true, false, false, false, false] rfl rfl (by kernel_rfl) (fun _ _ _ h => h) (Or.inl ⟨by rfl, ?_⟩) ?_ ?_
    rotate_left
    · intro w'
      go_simp
      with_reducible rfl
    rotate_left
    · simp only [Act.put, List.setIfInBounds_toArray, List.set_cons_zero, List.set_cons_succ, i64_w, i32_w]
      rfl
    refine take_ (i := 3) (N := some 19) (v := ?_) (a' := ?_) #[true, true, true, true, true, true, true, false, false, false, false] rfl rfl (by kernel_rfl) (fun _ _ _ h => h) (Or.inl ⟨by rfl, ?_⟩) hHeld ?_ ?_
    rotate_left
    · rintro w' ⟨s0, s1⟩
      go_simp
      with_reducible rfl
    rotate_left
    · simp only [Act.put, List.setIfInBounds_toArray, List.set_cons_zero, List.set_cons_succ, i64_w, i32_w]
      rfl
    refine take_ (i := 7) (N := some 23) (v := ?_) (a' := ?_) #[true, true, true, true, true, true, true, true, false, false, false] rfl rfl (by kernel_rfl) (fun _ _ _ h => h) (Or.inl ⟨by rfl, ?_⟩) hHeld ?_ ?_
    rotate_left
    · rintro w' ⟨s0, s1⟩
      go_simp
      with_reducible rfl
    rotate_left
    · simp only [Act.put, List.setIfInBounds_toArray, List.set_cons_zero, List.set_cons_succ, i64_w, i32_w]
      rfl
    refine one_ (i := 8) (N := some 24) #[true, true, true, true, true, true, true, true, true, false, false] rfl rfl (by kernel_rfl) (by decide) (fun K hK => ?_)
    refine goes_ Tryd.func68 (by kernel_rfl) rfl #[.string xk, .slice x.A xm x.c] (by rfl) rfl rfl (by simp only [List.map_toArray, List.map_cons, List.map_nil]; rfl) ?_
    with_reducible refine (HL.out).mono ?_
    rintro e' w1 ⟨A1, a1, rfl, r1, b1⟩
    refine ⟨_, rfl, ?_⟩
    refine hK.out _ _ ⟨(below_cell b1 hHeld.1), (below_cell b1 hHeld.2)⟩ (fun hHeld => ?_)
    clear hK K
    refine norm_ (a' := ?_) ?_ ?_
    rotate_left
    · show Act.put _ (some 24) _ = _
      simp only [Act.put, List.setIfInBounds_toArray, List.set_cons_zero, List.set_cons_succ, i64_w, i32_w]
      rfl
    refine one_ (i := 9) (N := some 25) #[true, true, true, true, true, true, true, true, true, true, false] rfl rfl (by kernel_rfl) (by decide) (fun K hK => ?_)
    refine goes_ Tryd.func31 (by kernel_rfl) rfl #[.slice A1 ln a1] (by rfl) rfl rfl (by simp only [List.map_toArray, List.map_cons, List.map_nil]; rfl) ?_
    with_reducible refine ((HS.out w1 A1 a1 r1)).mono ?_
    rintro e' w2 ⟨rfl, b2⟩
    refine ⟨_, rfl, ?_⟩
    refine hK.out _ _ ⟨(below_cell b2 hHeld.1), (below_cell b2 hHeld.2)⟩ (fun hHeld => ?_)
    clear hK K
    refine norm_ (a' := ?_) ?_ ?_
    rotate_left
    · show Act.put _ (some 25) _ = _
      simp only [Act.put, List.setIfInBounds_toArray, List.set_cons_zero, List.set_cons_succ, i64_w, i32_w]
      rfl
    refine pure_ (i := 10) (N := some 4) (v := ?_) (a' := ?_) #[true, true, true, true, true, true, true, true, true, true, true] rfl rfl (by kernel_rfl) (fun _ _ _ h => h) (Or.inl ⟨by rfl, ?_⟩) ?_ ?_
    rotate_left
    · intro w'
      go_simp
      with_reducible rfl
    rotate_left
    · simp only [Act.put, List.setIfInBounds_toArray, List.set_cons_zero, List.set_cons_succ, i64_w, i32_w]
      rfl
    refine done_ (by kernel_rfl) ?_
    have B2 : Below w.heap.size w w2 := (Below.refl w.heap.size w).drew.trans (b1.trans (b2.mono b1.size))
    go_wp2
    go_ret
    exact ⟨by rw [← HD.out]; rfl, B2⟩
  · have t1 : ((n : Int) == 1) = false := by rw [beq_eq_false_iff_ne]; omega
    have t2 : decide ((255 : Int) < (d : Int)) = true := by simp; omega
    clear hn1 h1
    go_enter Tryd.func52, Tryd.ntmps52
    go_wp2
    refine start_ (n := 11) (S := fun w' => w'.cell? ⟨g, o, none⟩ = some (.string xk) ∧ w'.cell? ⟨g, o + 1, none⟩ = some (.slice x.A xm x.c)) (ds := []) #[false, false, false, false, false, false, false, false, false, false, false] (by kernel_rfl) rfl rfl ⟨q0, q1⟩ (fun hHeld => ?_)
    refine pure_ (i := 0) (N := some 16) (v := ?_) (a' := ?_) #[true, false, false, false, false, false, false, false, false, false, false] rfl rfl (by kernel_rfl) (fun _ _ _ h => h) (Or.inl ⟨by rfl, ?_⟩) ?_ ?_
    rotate_left
    · intro w'
      go_simp
      with_reducible rfl
    rotate_left
    · simp only [Act.put, List.setIfInBounds_toArray, List.set_cons_zero, List.set_cons_succ, i64_w, i32_w]
      rfl
    refine pure_ (i := 1) (N := some 17) (v := ?_) (a' := ?_) #[true, true, false, false, false, false, false, false, false, false, false] rfl rfl (by kernel_rfl) (fun _ _ _ h => h) (Or.inl ⟨by rfl, ?_⟩) ?_ ?_
    rotate_left
    · intro w'
      go_simp
      with_reducible rfl
    rotate_left
    · simp only [Act.put, List.setIfInBounds_toArray, List.set_cons_zero, List.set_cons_succ, i64_w, i32_w]
      rfl
    refine pure_ (i := 2) (N := some 18) (v := ?_) (a' := ?_) #[true, true, true, false, false, false, false, false, false, false, false] rfl rfl (by kernel_rfl) (fun _ _ _ h => h) (Or.inl ⟨by rfl, ?_⟩) ?_ ?_
    rotate_left
    · intro w'
      go_simp
      with_reducible rfl
    rotate_left
    · simp only [Act.put, List.setIfInBounds_toArray, List.set_cons_zero, List.set_cons_succ, i64_w, i32_w]
      rfl
    refine pure_ (i := 4) (N := some 20) (v := ?_) (a' := ?_) #[true, true, true, false, true, false, false, false, false, false, false] rfl rfl (by kernel_rfl) (fun _ _ _ h => h) (Or.inl ⟨by rfl, ?_⟩) ?_ ?_
    rotate_left
    · intro w'
      go_simp
      with_reducible rfl
    rotate_left
    · simp only [Act.put, List.setIfInBounds_toArray, List.set_cons_zero, List.set_cons_succ, i64_w, i32_w]
      rfl
    refine pure_ (i := 5) (N := some 21) (v := ?_) (a' := ?_) #[true, true, true, false, true, true, false, false, false, false, false] rfl rfl (by kernel_rfl) (fun _ _ _ h => h) (Or.inl ⟨by rfl, ?_⟩) ?_ ?_
    rotate_left
    · intro w'
      go_simp
      with_reducible rfl
    rotate_left
    · simp only [Act.put, List.setIfInBounds_toArray, List.set_cons_zero, List.set_cons_succ, i64_w, i32_w]
      rfl
    refine pure_ (i := 6) (N := some 22) (v := ?_) (a' := ?_) #[true, true, true, false, true, true, true, false, false, false, false] rfl rfl (by kernel_rfl) (fun _ _ _ h => h) (Or.inl ⟨by rfl, ?_⟩) ?_ ?_
    rotate_left
    · intro w'
      go_simp
      with_reducible rfl
    rotate_left
    · simp only [Act.put, List.setIfInBounds_toArray, List.set_cons_zero, List.set_cons_succ, i64_w, i32_w]
      rfl
    refine take_ (i := 3) (N := some 19) (v := ?_) (a' := ?_) #[true, true, true, true, true, true, true, false, false, false, false] rfl rfl (by kernel_rfl) (fun _ _ _ h => h) (Or.inl ⟨by rfl, ?_⟩) hHeld ?_ ?_
    rotate_left
    · rintro w' ⟨s0, s1⟩
      go_simp
      with_reducible rfl
    rotate_left
    · simp only [Act.put, List.setIfInBounds_toArray, List.set_cons_zero, List.set_cons_succ, i64_w, i32_w]
      rfl
    refine take_ (i := 7) (N := some 23) (v := ?_) (a' := ?_) #[true, true, true, true, true, true, true, true, false, false, false] rfl rfl (by kernel_rfl) (fun _ _ _ h => h) (Or.inl ⟨by rfl, ?_⟩) hHeld ?_ ?_
    rotate_left
    · rintro w' ⟨s0, s1⟩
      go_simp
      with_reducible rfl
    rotate_left
    · simp only [Act.put, List.setIfInBounds_toArray, List.set_cons_zero, List.set_cons_succ, i64_w, i32_w]
      rfl
    refine one_ (i := 8) (N := some 24) #[true, true, true, true, true, true, true, true, true, false, false] rfl rfl (by kernel_rfl) (by decide) (fun K hK => ?_)
    refine goes_ Tryd.func68 (by kernel_rfl) rfl #[.string xk, .slice x.A xm x.c] (by rfl) rfl rfl (by simp only [List.map_toArray, List.map_cons, List.map_nil]; rfl) ?_
    with_reducible refine (HL.out).mono ?_
    rintro e' w1 ⟨A1, a1, rfl, r1, b1⟩
    refine ⟨_, rfl, ?_⟩
    refine hK.out _ _ ⟨(below_cell b1 hHeld.1), (below_cell b1 hHeld.2)⟩ (fun hHeld => ?_)
    clear hK K
    refine norm_ (a' := ?_) ?_ ?_
    rotate_left
    · show Act.put _ (some 24) _ = _
      simp only [Act.put, List.setIfInBounds_toArray, List.set_cons_zero, List.set_cons_succ, i64_w, i32_w]
      rfl
    refine one_ (i := 9) (N := some 25) #[true, true, true, true, true, true, true, true, true, true, false] rfl rfl (by kernel_rfl) (by decide) (fun K hK => ?_)
    refine goes_ Tryd.func31 (by kernel_rfl) rfl #[.slice A1 ln a1] (by rfl) rfl rfl (by simp only [List.map_toArray, List.map_cons, List.map_nil]; rfl) ?_
    with_reducible refine ((HS.out w1 A1 a1 r1)).mono ?_
    rintro e' w2 ⟨rfl, b2⟩
    refine ⟨_, rfl, ?_⟩
    refine hK.out _ _ ⟨(below_cell b2 hHeld.1), (below_cell b2 hHeld.2)⟩ (fun hHeld => ?_)
    clear hK K
    refine norm_ (a' := ?_) ?_ ?_
    rotate_left
    · show Act.put _ (some 25) _ = _
      simp only [Act.put, List.setIfInBounds_toArray, List.set_cons_zero, List.set_cons_succ, i64_w, i32_w]
      rfl
    refine pure_ (i := 10) (N := some 4) (v := ?_) (a' := ?_) #[true, true, true, true, true, true, true, true, true, true, true] rfl rfl (by kernel_rfl) (fun _ _ _ h => h) (Or.inl ⟨by rfl, ?_⟩) ?_ ?_
    rotate_left
    · intro w'
      go_simp
      with_reducible rfl
    rotate_left
    · simp only [Act.put, List.setIfInBounds_toArray, List.set_cons_zero, List.set_cons_succ, i64_w, i32_w]
      rfl
    refine done_ (by kernel_rfl) ?_
    have B2 : Below w.heap.size w w2 := (Below.refl w.heap.size w).drew.trans (b1.trans (b2.mono b1.size))
    go_wp2
    go_ret
    exact ⟨by rw [← HD.out]; rfl, B2⟩
theorem rnodeK {w : World} {s t : Tr} :
    Calls Tryd.prog 69 #[.string (digS s), .string (digS t)] w fun e w' => ∃ A' c' n, e = .returned (.slice A' n c') ∧ (nodeB s.dig t.dig).length = n ∧ n ≤ 1000 ∧ BSA w' A' c' (nodeB s.dig t.dig) ∧ Below w.heap.size w w' := by
  have H := rnodeBytes_any (w := w) (a := digS s) (b := digS t) (by rw [digS_size]; omega) (by rw [digS_size]; omega)
  rw [digS_list, digS_list] at H
  refine H.mono ?_
  rintro e w' ⟨A', c', rfl, h1, h2⟩
  exact ⟨A', c', _, rfl, rfl, by rw [nodeB_length, dig_len, dig_len]; omega, h1, h2⟩
def DigRec (f : Nat) (d : Int) : Prop := ∀ (w : World) (A : Option Addr) (c n : Nat) (l : List RI), l.length = n → ItAt w A l → KeysOk l → RowsOk l → n ≤ c → n ≤ 1000000 →
    Calls Tryd.prog 52 #[.slice A n c, .int .i64 d] w fun e w' => e = .returned (.string (digS (treeF f (mapI l)))) ∧ Below w.heap.size w w'
theorem Its.le {w : World} {B c n : Nat} {A : Option Addr} {l : List RI} (h : Its w B A c l) (hn : l.length = n) : n ≤ c := by have := h.cap.1; omega
set_option maxRecDepth 100000 in
set_option maxHeartbeats 6400000 in
theorem rdig_node {w : World} {A : Option Addr} {c n d f : Nat} {l : List RI} (hn : l.length = n) (h : ItAt w A l) (hkk : KeysOk l) (hrr : RowsOk l) (hc : n ≤ c) (hb : n ≤ 1000000) (hd : d ≤ 255) (h2 : 2 ≤ n) (rec_ : DigRec f ((d : Int) + 1)) :
    Calls Tryd.prog 52 #[.slice A n c, .int .i64 (d : Int)] w fun e w' => e = .returned (.string (digS (.node (treeF f (mapI (halfR l d 0))) (treeF f (mapI (halfR l d 1)))))) ∧ Below w.heap.size w w' := by
  have t0 : ((n : Int) == 0) = false := by rw [beq_eq_false_iff_ne]; omega
  have t1 : ((n : Int) == 1) = false := by rw [beq_eq_false_iff_ne]; omega
  have t2 : decide ((255 : Int) < (d : Int)) = false := by simp; omega
  have HN := hid hn
  have HH := hid h
  have KK := hid (And.intro hkk hrr)
  have RC := hid rec_
  have L0 := hid (Nat.le_trans (halfR_length l d 0) (by omega : l.length ≤ 1000000))
  have L1 := hid (Nat.le_trans (halfR_length l d 1) (by omega : l.length ≤ 1000000))
  have H0 : Hid (Calls Tryd.prog 53 #[.slice A n c, .int .i64 (d : Int), .int .i64 0] w (GaveI w (halfR l d 0))) := hid (rhalf_any hn h hkk hc hb (by omega))
  have ED : Hid (dig (nodeB (treeF f (mapI (halfR l d 0))).dig (treeF f (mapI (halfR l d 1))).dig) = digS (.node (treeF f (mapI (halfR l d 0))) (treeF f (mapI (halfR l d 1))))) := hid rfl
  generalize digS (.node (treeF f (mapI (halfR l d 0))) (treeF f (mapI (halfR l d 1)))) = RES at *
  clear hn h hkk hrr rec_
  go_enter Tryd.func52, Tryd.ntmps52
  go_wp2_with fail
  refine H0.out.mono ?_
  rintro e w1 ⟨A1, c1, n1, rfl, hn1, i1, b1⟩
  have D0 := hid (RC.out w1 A1 c1 n1 _ hn1 i1.at_ (half_keys KK.out.1) (half_rows KK.out.2) (i1.le hn1) (by have := L0.out; omega))
  have BB := hid b1
  clear H0 hn1 i1 b1
  generalize hT0 : treeF f (mapI (halfR l d 0)) = T0 at *
  go_wp2_with fail
  refine D0.out.mono ?_
  rintro e w2 ⟨rfl, b2⟩
  replace BB := hid (below_then BB.out b2)
  have H1 : Hid (Calls Tryd.prog 53 #[.slice A n c, .int .i64 (d : Int), .int .i64 1] w2 (GaveI w2 (halfR l d 1))) := hid (rhalf_any HN.out (HH.out.below BB.out) KK.out.1 hc hb (by omega))
  clear D0 b2
  go_wp2_with fail
  refine H1.out.mono ?_
  rintro e w3 ⟨A3, c3, n3, rfl, hn3, i3, b3⟩
  have D1 := hid (RC.out w3 A3 c3 n3 _ hn3 i3.at_ (half_keys KK.out.1) (half_rows KK.out.2) (i3.le hn3) (by have := L1.out; omega))
  replace BB := hid (below_then BB.out b3)
  clear H1 hn3 i3 b3
  generalize hT1 : treeF f (mapI (halfR l d 1)) = T1 at *
  go_wp2_with fail
  refine D1.out.mono ?_
  rintro e w4 ⟨rfl, b4⟩
  replace BB := hid (below_then BB.out b4)
  have NB := hid (rnodeK (w := w4) (s := T0) (t := T1))
  clear D1 b4
  go_wp2_with fail
  refine NB.out.mono ?_
  rintro e w5 ⟨A5, c5, n5, rfl, hn5, hl5, r5, b5⟩
  replace BB := hid (below_then BB.out b5)
  have SM := hid (rsum_dig hn5 r5 (by omega))
  clear NB hn5 r5 b5
  go_wp2_with fail
  refine SM.out.mono ?_
  rintro e w6 ⟨rfl, b6⟩
  replace BB := hid (below_then BB.out b6)
  clear SM b6
  go_wp2
  go_ret
  exact ⟨by rw [← ED.out]; rfl, BB.out⟩
theorem mapI_length (l : List RI) : (mapI l).length = l.length := List.length_map _
theorem mapI_half (l : List RI) (d : Nat) (b : Int) : mapI (halfR l d b) = halfI (mapI l) d b := half_map l d b
theorem rdig_any (f : Nat) : ∀ (d : Nat), d + f = 256 → DigRec f (d : Int) := by
  induction f with
  | zero =>
    intro d hd w A c n l hn h hk hr hc hb
    match l, hn with
    | [], hn =>
      obtain rfl : n = 0 := by simpa using hn.symm
      exact rdig_none
    | x :: l', hn =>
      have h0 : 0 < (x :: l').length := by simp
      obtain ⟨g, o, rfl, q0, q1⟩ := h.at_ 0 h0
      have e : treeF 0 (mapI (x :: l')) = .leaf x.itm := by cases l' <;> rfl
      rw [e]
      exact rdig_leaf (x := x) (by rw [← hn]; exact h0) hc hb (by simpa using q0) (by simpa using q1) (h.2.2 x (by simp)) (hk x (by simp)) (hr x (by simp)) (by omega) (.inr (by omega))
  | succ f ih =>
    intro d hd w A c n l hn h hk hr hc hb
    by_cases h2 : 2 ≤ n
    · have e : treeF (f + 1) (mapI l) = .node (treeF f (mapI (halfR l d 0))) (treeF f (mapI (halfR l d 1))) := by
        rw [treeF_big f (mapI l) (by rw [mapI_length]; omega), mapI_half, mapI_half, show 255 - f = d by omega]
      rw [e]
      have := ih (d + 1) (by omega)
      rw [show ((d + 1 : Nat) : Int) = (d : Int) + 1 by omega] at this
      exact rdig_node hn h hk hr hc hb (by omega) h2 this
    · match l, hn with
      | [], hn =>
        obtain rfl : n = 0 := by simpa using hn.symm
        exact rdig_none
      | [x], hn =>
        obtain rfl : n = 1 := by simpa using hn.symm
        have h0 : 0 < [x].length := by simp
        obtain ⟨g, o, rfl, q0, q1⟩ := h.at_ 0 h0
        rw [show treeF (f + 1) (mapI [x]) = .leaf x.itm from rfl]
        exact rdig_leaf (x := x) (by omega) hc hb (by simpa using q0) (by simpa using q1) (h.2.2 x (by simp)) (hk x (by simp)) (hr x (by simp)) (by omega) (.inl rfl)
      | x :: y :: l', hn => simp at hn; omega
end Go.Proofs.YtmbgfjcmdolggaaDoor
