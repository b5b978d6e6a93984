/- The reference's Put and Half. -/
import Derived.Test.YtmbgfjcmdolggaaDoorItems
import Derived.Laws.Cover1
set_option linter.unusedVariables false
set_option linter.unusedSimpArgs false
namespace Go.Proofs.YtmbgfjcmdolggaaDoor
open Go.RowKit PrintLast

theorem copy_gave {w : World} {A : Option Addr} {c m : Nat} {row : List UInt8} (hm : row.length = m) (hr : BSA w A c row) (hb : m ≤ 1000000) :
    Calls Tryd.prog 22 #[.slice A m c, .slice none 0 0] w fun e w' => ∃ A' c', e = .returned (.slice A' m c') ∧ Row w' 0 A' c' row ∧ Below w.heap.size w w' := by
  refine (join_gave hm rfl (List.append_nil row) hr (BSA.nil w) (by omega)).mono ?_
  rintro e w' ⟨A', c', rfl, h1, h2⟩
  exact ⟨A', c', by rw [hm], h1.lower (Nat.zero_le _), h2⟩
/-- What Put has so far: has it laid the new one? -/
def PutS (d : Bool) (l L : List RI) (x : Itm) : Prop := (L.map RI.itm).Perm (cond d (putI (l.map RI.itm) x) (delI (l.map RI.itm) x.key))
theorem put_nought (x : Itm) : PutS false [] [] x := List.Perm.refl _
theorem put_begin {l L : List RI} {x : Itm} {q : RI} (h : PutS false l L x) (hq : q.itm = x) : PutS true l (L ++ [q]) x := by
  unfold PutS at h ⊢
  simp only [cond] at h ⊢
  rw [List.map_append, List.map_cons, List.map_nil, hq]
  exact (List.perm_append_comm (l₁ := L.map RI.itm) (l₂ := [x])).trans (List.Perm.cons x h)
theorem take_map {l : List RI} {k : Nat} (hk : k < l.length) : (l.take (k + 1)).map RI.itm = (l.take k).map RI.itm ++ [l[k].itm] := by
  rw [List.take_add_one, List.getElem?_eq_getElem hk, List.map_append]; rfl
theorem put_skip {l L : List RI} {x : Itm} {k : Nat} {d : Bool} (hk : k < l.length) (he : l[k].key = x.key) (h : PutS d (l.take k) L x) : PutS d (l.take (k + 1)) L x := by
  unfold PutS at h ⊢
  rw [take_map hk]
  have e : delI ((l.take k).map RI.itm ++ [l[k].itm]) x.key = delI ((l.take k).map RI.itm) x.key := by
    unfold delI
    rw [List.filter_append]
    have : ([l[k].itm].filter fun y => decide (y.key ≠ x.key)) = [] := by
      rw [List.filter_cons, if_neg (by simp; exact he)]; rfl
    rw [this, List.append_nil]
  cases d with
  | false => simp only [cond] at h ⊢; rw [e]; exact h
  | true =>
    simp only [cond] at h ⊢
    unfold putI at h ⊢
    exact h.trans (List.Perm.of_eq (congrArg (x :: ·) e.symm))
theorem put_next {l L : List RI} {x : Itm} {k : Nat} {d : Bool} (hk : k < l.length) (he : ¬ l[k].key = x.key) (h : PutS d (l.take k) L x) : PutS d (l.take (k + 1)) (L ++ [l[k]]) x := by
  unfold PutS at h ⊢
  rw [take_map hk, List.map_append, List.map_cons, List.map_nil]
  have e : delI ((l.take k).map RI.itm ++ [l[k].itm]) x.key = delI ((l.take k).map RI.itm) x.key ++ [l[k].itm] := by
    unfold delI
    rw [List.filter_append]
    have : ([l[k].itm].filter fun y => decide (y.key ≠ x.key)) = [l[k].itm] := by
      rw [List.filter_cons, if_pos (by simp; exact he)]; rfl
    rw [this]
  cases d with
  | false => simp only [cond] at h ⊢; rw [e]; exact h.append_right _
  | true =>
    simp only [cond] at h ⊢
    unfold putI at h ⊢
    exact (h.append_right [l[k].itm]).trans (List.Perm.of_eq (congrArg (x :: ·) e.symm))
theorem put_len {l L : List RI} {x : Itm} {d : Bool} {j : Nat} (h : PutS d (l.take j) L x) : L.length ≤ j + 1 := by
  have h1 := h.length_eq
  rw [List.length_map] at h1
  have h2 := putI_length ((l.take j).map RI.itm) x
  have h3 := delI_length ((l.take j).map RI.itm) x.key
  have h4 : (l.take j).length ≤ j := List.length_take_le j l
  rw [List.length_map] at h2 h3
  cases d with
  | false => simp only [cond] at h1; omega
  | true => simp only [cond] at h1; omega

set_option maxRecDepth 100000 in
set_option maxHeartbeats 12800000 in
theorem rput_any {w : World} {A RA : Option Addr} {c n rc rm : Nat} {l : List RI} {key : ByteArray} {row : List UInt8} (hn : l.length = n) (h : ItAt w A l) (hc : n ≤ c) (hb : n ≤ 1000000) (hm : row.length = rm) (hr : BSA w RA rc row) (hmb : rm ≤ 1000000) :
    Calls Tryd.prog 51 #[.slice A n c, .string key, .slice RA rm rc] w fun e w' => ∃ L, Hid ((L.map RI.itm).Perm (putI (l.map RI.itm) ⟨key, row⟩)) ∧ GaveI w L e w' := by
  obtain ⟨S, hS⟩ : ∃ S, S = w.heap.size := ⟨_, rfl⟩
  have HS := hid hS
  have HH := hid h
  have HN := hid hn
  have HRm := hid hm
  have HR := hid hr
  have I0 := Its.nil w S
  have B0 := Below.refl S w
  have s0 : S ≤ w.heap.size := by omega
  have PS0 := hid (put_nought ⟨key, row⟩)
  clear h hn hS hm hr
  go_enter Tryd.func51, Tryd.ntmps51
  go_wp2
  go_loopw [7, 8, 9] (fun ov dv i wr => ∃ (j m c' : Nat) (R : Option Addr) (L : List RI) (d : Bool), j ≤ n ∧ i = .int .i64 j ∧ ov = .slice R m c' ∧ dv = .bool d ∧ L.length = m ∧ Hid (PutS d (l.take j) L ⟨key, row⟩) ∧ Its wr S R c' L ∧ S ≤ wr.heap.size ∧ Below S w wr) (fun _ _ i _ => n - (intOf i).toNat)
  case atStart => exact ⟨0, 0, 0, none, [], false, Nat.zero_le _, rfl, rfl, rfl, rfl, PS0, I0, s0, B0⟩
  case round =>
    clear I0 B0 s0 PS0
    obtain ⟨j, m, c', R, L, d, hj, rfl, rfl, rfl, hm, PS, hI, hs, hB⟩ := hrel
    have hmj : m ≤ j + 1 := by have := put_len PS.out; omega
    have HM := hid hm
    have II := hid (And.intro hI hB)
    clear hm hI hB
    by_cases hlt : j < n
    · have t1 : decide ((j : Int) < (n : Int)) = true := by simp; omega
      have t1' : decide (j < n) = true := by simp; omega
      have jl : j < l.length := by have := HN.out; omega
      have hat := HH.out.below (show Below w.heap.size w wr from HS.out ▸ II.out.2)
      obtain ⟨g, o, rfl, q0, q1⟩ := hat.at_ j jl
      obtain ⟨x, hx⟩ : ∃ x, x = l[j] := ⟨_, rfl⟩
      rw [← hx] at q0 q1
      have RX := hid (show Row wr 0 x.A x.c x.row from hat.2.2 x (by rw [hx]; exact List.getElem_mem jl))
      obtain ⟨xk, hxk⟩ : ∃ xk, xk = x.key := ⟨_, rfl⟩
      obtain ⟨xm, hxm⟩ : ∃ xm, xm = x.row.length := ⟨_, rfl⟩
      rw [← hxk] at q0
      rw [← hxm] at q1
      have HX := hid (And.intro hx (And.intro hxk hxm))
      clear hat hx hxk hxm
      cases d with
      | true =>
        by_cases hk : xk = key
        · have t2 : (xk.toList == key.toList) = true := by rw [hk]; simp
          have NX := hid (put_skip (by have := HN.out; omega) (by rw [← HX.out.1, ← HX.out.2.1, hk]) PS.out)
          clear hk PS
          go_wp2
          go_roundw
          case rel => exact ⟨j + 1, m, c', R, L, true, hlt, by go_num, rfl, rfl, HM.out, NX, II.out.1, hs, II.out.2⟩
          case measure => simp [intOf]; omega
        · have t2 : (xk.toList == key.toList) = false := by rw [str_beq]; simp [hk]
          have NX0 := put_next (by have := HN.out; omega) (by rw [← HX.out.1, ← HX.out.2.1]; exact hk) PS.out
          rw [← HX.out.1] at NX0
          have NX := hid NX0
          clear hk PS NX0
          go_wp2_with (refine wpList_appI rfl (.tmp 41) (.tmp 46) rfl S (Nat.le_trans hs (below_alloc (Below.refl _ wr) (.cells #[.string xk, .slice x.A xm x.c] 91)).size) R c' (m) L rfl HM.out (II.out.1.below (below_alloc (Below.refl _ wr) _)) wr.heap.size x xm rfl HX.out.2.2.symm (by rw [← HX.out.2.1]; exact cell_at (heap_alloc_new _ _) rfl) (cell_at (heap_alloc_new _ _) rfl) (RX.out.below (below_alloc (Below.refl _ wr) _)) (by omega) ?_)
          intro R2 c2 w2 i2 b2
          have HI2 := hid i2
          have B2 : Below S w w2 := II.out.2.trans (((Below.refl S wr).alloc hs _).trans b2)
          have s2 : S ≤ w2.heap.size := Nat.le_trans hs (Nat.le_trans (below_alloc (Below.refl _ wr) (.cells #[.string xk, .slice x.A xm x.c] 91)).size b2.size)
          have HM2 := hid (show (L ++ [x]).length = m + 1 by rw [List.length_append, List.length_singleton, HM.out])
          clear i2 b2 q0 q1
          go_wp2
          go_roundw
          case rel => exact ⟨j + 1, m + 1, c2, R2, L ++ [x], true, hlt, by go_num, rfl, rfl, HM2.out, NX, HI2.out, s2, B2⟩
          case measure => simp [intOf]; omega
      | false =>
        cases hge : Op.bytesLess xk.toList key.toList with
        | true =>
          by_cases hk : xk = key
          · have t2 : (xk.toList == key.toList) = true := by rw [hk]; simp
            have NX := hid (put_skip (by have := HN.out; omega) (by rw [← HX.out.1, ← HX.out.2.1, hk]) PS.out)
            clear hk PS
            go_wp2
            go_roundw
            case rel => exact ⟨j + 1, m, c', R, L, false, hlt, by go_num, rfl, rfl, HM.out, NX, II.out.1, hs, II.out.2⟩
            case measure => simp [intOf]; omega
          · have t2 : (xk.toList == key.toList) = false := by rw [str_beq]; simp [hk]
            have NX0 := put_next (by have := HN.out; omega) (by rw [← HX.out.1, ← HX.out.2.1]; exact hk) PS.out
            rw [← HX.out.1] at NX0
            have NX := hid NX0
            clear hk PS NX0
            go_wp2_with (refine wpList_appI rfl (.tmp 41) (.tmp 46) rfl S (Nat.le_trans hs (below_alloc (Below.refl _ wr) (.cells #[.string xk, .slice x.A xm x.c] 91)).size) R c' (m) L rfl HM.out (II.out.1.below (below_alloc (Below.refl _ wr) _)) wr.heap.size x xm rfl HX.out.2.2.symm (by rw [← HX.out.2.1]; exact cell_at (heap_alloc_new _ _) rfl) (cell_at (heap_alloc_new _ _) rfl) (RX.out.below (below_alloc (Below.refl _ wr) _)) (by omega) ?_)
            intro R2 c2 w2 i2 b2
            have HI2 := hid i2
            have B2 : Below S w w2 := II.out.2.trans (((Below.refl S wr).alloc hs _).trans b2)
            have s2 : S ≤ w2.heap.size := Nat.le_trans hs (Nat.le_trans (below_alloc (Below.refl _ wr) (.cells #[.string xk, .slice x.A xm x.c] 91)).size b2.size)
            have HM2 := hid (show (L ++ [x]).length = m + 1 by rw [List.length_append, List.length_singleton, HM.out])
            clear i2 b2 q0 q1
            go_wp2
            go_roundw
            case rel => exact ⟨j + 1, m + 1, c2, R2, L ++ [x], false, hlt, by go_num, rfl, rfl, HM2.out, NX, HI2.out, s2, B2⟩
            case measure => simp [intOf]; omega
        | false =>
          have JN := hid (copy_gave HRm.out (HR.out.below (show Below w.heap.size w wr from HS.out ▸ II.out.2)) hmb)
          go_wp2_with fail
          refine JN.out.mono ?_
          rintro e w1 ⟨QA, qc, rfl, qr, b1⟩
          clear JN
          have al := below_alloc (Below.refl _ w1) (.cells #[.string key, .slice QA rm qc] 91)
          have QR := hid (qr.below al)
          have I1 := hid ((II.out.1.below b1).below al)
          have s1 : S ≤ (w1.alloc (.cells #[.string key, .slice QA rm qc] 91)).heap.size := Nat.le_trans hs (Nat.le_trans b1.size al.size)
          have B1 := hid ((II.out.2.trans (b1.mono hs)).trans (al.mono (Nat.le_trans hs b1.size)))
          replace q0 := below_cell al (below_cell b1 q0)
          replace q1 := below_cell al (below_cell b1 q1)
          replace RX := hid ((RX.out.below b1).below al)
          clear II
          have Q0 := hid q0
          have Q1 := hid q1
          clear qr b1 al q0 q1
          go_wp2_with (refine wpList_appI rfl (.tmp 27) (.tmp 32) rfl S s1 R c' m L rfl HM.out I1.out w1.heap.size ⟨key, QA, qc, row⟩ rm rfl HRm.out (cell_at (heap_alloc_new _ _) rfl) (cell_at (heap_alloc_new _ _) rfl) QR.out (by omega) ?_)
          intro R3 c3 w3 i3 b3
          have II := hid (And.intro i3 (B1.out.trans b3))
          have hs3 : S ≤ w3.heap.size := Nat.le_trans s1 b3.size
          replace PS := hid (put_begin (q := ⟨key, QA, qc, row⟩) PS.out rfl)
          replace HM := hid (show (L ++ [(⟨key, QA, qc, row⟩ : RI)]).length = m + 1 by rw [List.length_append, List.length_singleton, HM.out])
          have hat := HH.out.below (show Below w.heap.size w w3 from HS.out ▸ II.out.2)
          obtain ⟨g', o', e', q0, q1⟩ := hat.at_ j jl
          cases e'
          rw [← HX.out.1] at q0 q1
          rw [← HX.out.2.1] at q0
          rw [← HX.out.2.2] at q1
          replace RX := hid (show Row w3 0 x.A x.c x.row from hat.2.2 x (by rw [HX.out.1]; exact List.getElem_mem jl))
          generalize L ++ [(⟨key, QA, qc, row⟩ : RI)] = L3 at *
          have hmj3 : m + 1 ≤ j + 1 := by have := put_len PS.out; have := HM.out; omega
          clear i3 b3 B1 I1 QR s1 hs Q0 Q1 hat hmj
          by_cases hk : xk = key
          · have t2 : (xk.toList == key.toList) = true := by rw [hk]; simp
            have NX := hid (put_skip (by have := HN.out; omega) (by rw [← HX.out.1, ← HX.out.2.1, hk]) PS.out)
            clear hk PS
            go_wp2
            go_roundw
            case rel => exact ⟨j + 1, m + 1, c3, R3, L3, true, hlt, by go_num, rfl, rfl, HM.out, NX, II.out.1, hs3, II.out.2⟩
            case measure => simp [intOf]; omega
          · have t2 : (xk.toList == key.toList) = false := by rw [str_beq]; simp [hk]
            have NX0 := put_next (by have := HN.out; omega) (by rw [← HX.out.1, ← HX.out.2.1]; exact hk) PS.out
            rw [← HX.out.1] at NX0
            have NX := hid NX0
            clear hk PS NX0
            go_wp2_with (refine wpList_appI rfl (.tmp 41) (.tmp 46) rfl S (Nat.le_trans hs3 (below_alloc (Below.refl _ w3) (.cells #[.string xk, .slice x.A xm x.c] 91)).size) R3 c3 (m + 1) L3 rfl HM.out (II.out.1.below (below_alloc (Below.refl _ w3) _)) w3.heap.size x xm rfl HX.out.2.2.symm (by rw [← HX.out.2.1]; exact cell_at (heap_alloc_new _ _) rfl) (cell_at (heap_alloc_new _ _) rfl) (RX.out.below (below_alloc (Below.refl _ w3) _)) (by omega) ?_)
            intro R2 c2 w2 i2 b2
            have HI2 := hid i2
            have B2 : Below S w w2 := II.out.2.trans (((Below.refl S w3).alloc hs3 _).trans b2)
            have s2 : S ≤ w2.heap.size := Nat.le_trans hs3 (Nat.le_trans (below_alloc (Below.refl _ w3) (.cells #[.string xk, .slice x.A xm x.c] 91)).size b2.size)
            have HM2 := hid (show (L3 ++ [x]).length = m + 1 + 1 by rw [List.length_append, List.length_singleton, HM.out])
            clear i2 b2 q0 q1
            go_wp2
            go_roundw
            case rel => exact ⟨j + 1, m + 1 + 1, c2, R2, L3 ++ [x], true, hlt, by go_num, rfl, rfl, HM2.out, NX, HI2.out, s2, B2⟩
            case measure => simp [intOf]; omega
    · obtain rfl : n = j := by omega
      have t1 : decide ((n : Int) < (n : Int)) = false := by simp
      have eL : l.take n = l := List.take_of_length_le (Nat.le_of_eq HN.out)
      rw [eL] at PS
      clear eL hlt hj
      cases d with
      | true =>
        have E : Hid ((L.map RI.itm).Perm (putI (l.map RI.itm) ⟨key, row⟩)) := hid PS.out
        go_wp2
        go_ret
        exact ⟨L, E, R, c', m, rfl, HM.out, HS.out ▸ II.out.1, HS.out ▸ II.out.2⟩
      | false =>
        have JN := hid (copy_gave HRm.out (HR.out.below (show Below w.heap.size w wr from HS.out ▸ II.out.2)) hmb)
        go_wp2_with fail
        refine JN.out.mono ?_
        rintro e w1 ⟨QA, qc, rfl, qr, b1⟩
        clear JN
        have al := below_alloc (Below.refl _ w1) (.cells #[.string key, .slice QA rm qc] 91)
        have QR := hid (qr.below al)
        have I1 := hid ((II.out.1.below b1).below al)
        have s1 : S ≤ (w1.alloc (.cells #[.string key, .slice QA rm qc] 91)).heap.size := Nat.le_trans hs (Nat.le_trans b1.size al.size)
        have B1 := hid ((II.out.2.trans (b1.mono hs)).trans (al.mono (Nat.le_trans hs b1.size)))
        clear II qr b1 al
        go_wp2_with (refine wpList_appI rfl (.tmp 50) (.tmp 55) rfl S s1 R c' m L rfl HM.out I1.out w1.heap.size ⟨key, QA, qc, row⟩ rm rfl HRm.out (cell_at (heap_alloc_new _ _) rfl) (cell_at (heap_alloc_new _ _) rfl) QR.out (by omega) ?_)
        intro R3 c3 w3 i3 b3
        have II := hid (And.intro i3 (B1.out.trans b3))
        replace PS := hid (put_begin (q := ⟨key, QA, qc, row⟩) PS.out rfl)
        replace HM := hid (show (L ++ [(⟨key, QA, qc, row⟩ : RI)]).length = m + 1 by rw [List.length_append, List.length_singleton, HM.out])
        generalize L ++ [(⟨key, QA, qc, row⟩ : RI)] = L3 at *
        clear i3 b3 B1 I1 QR s1 hs
        have E : Hid ((L3.map RI.itm).Perm (putI (l.map RI.itm) ⟨key, row⟩)) := hid PS.out
        go_wp2
        go_ret
        exact ⟨L3, E, R3, c3, m + 1, rfl, HM.out, HS.out ▸ II.out.1, HS.out ▸ II.out.2⟩

/-! ### Half -/
def halfR (l : List RI) (d : Nat) (b : Int) : List RI := l.filter fun x => btK x.key d == b
theorem half_map (l : List RI) (d : Nat) (b : Int) : (halfR l d b).map RI.itm = halfI (l.map RI.itm) d b := by
  unfold halfR halfI
  induction l with
  | nil => rfl
  | cons x l ih =>
    rw [List.filter_cons, List.map_cons, List.filter_cons]
    by_cases h : btK x.key d == b
    · rw [if_pos h, if_pos (show btK x.itm.key d == b from h), List.map_cons, ih]
    · rw [if_neg h, if_neg (show ¬ (btK x.itm.key d == b) = true from h), ih]
def KeysOk (l : List RI) : Prop := ∀ x ∈ l, x.key.size ≤ 1000000
end Go.Proofs.YtmbgfjcmdolggaaDoor
