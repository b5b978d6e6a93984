/- The walks of fresh, end, Sum. -/
import Derived.Test.YtdhhaibefifdmaaGreatDoorShaE
import Derived.Test.YtdhhaibefifdmaaGreatDoorBuild
import Derived.Deep.CutBlock
set_option linter.unusedVariables false
set_option linter.unusedSimpArgs false
namespace Go.Proofs.YtdhhaibefifdmaaGreatDoor
open Go.RowKit PrintLast

/-- A hasher to which the bytes t came; all that is its own is numbered from B on. -/
def HasT (w : World) (B b : Nat) (t : List UInt8) : Prop := B ≤ b ∧ ∃ R c, HashAt w b (run first t).1 R (run first t).2.length c t.length ∧ WaitAt w R c (run first t).2 ∧ ∀ ad, R = some ad → B ≤ ad.block
theorem HasT.below {w w' : World} {B b : Nat} {t : List UInt8} (h : HasT w B b t) (hb : Below w.heap.size w w') : HasT w' B b t := by
  obtain ⟨h1, R, c, h2, h3, h4⟩ := h
  exact ⟨h1, R, c, h2.below hb, h3.below hb, h4⟩
theorem HasT.lt {w : World} {B b : Nat} {t : List UInt8} (h : HasT w B b t) : b < w.heap.size := by
  obtain ⟨h1, R, c, h2, _⟩ := h
  exact lt_of_block h2.2

theorem write_one {w : World} {B b c2 : Nat} {A : Option Addr} {t : List UInt8} {x : UInt8} (hT : Table w) (hTB : 0 < B) (hB : B ≤ w.heap.size) (h : HasT w B b t) (hq : BSA w A c2 [x]) (hqb : ∀ ad, A = some ad → ad.block ≠ b) (hn : t.length ≤ 140737488355328) :
    Calls Tryz.prog 40 #[.pointer (some ⟨b, 0, none⟩), .slice A 1 c2] w fun e w' => e = .returned (.tuple #[]) ∧ HasT w' B b (t ++ [x]) ∧ Below B w w' := by
  obtain ⟨h1, R, c, h2, h3, h4⟩ := h
  have hl := run_rest_length first t
  refine (write_any hT hTB hB h1 h2 h3 h4 hq (fun ad e _ => hqb ad e) (.inr rfl) (by simp; omega) (by rw [hl]; simp; omega)).mono ?_
  rintro e w' ⟨he, ⟨R', c', k1, k2, k3⟩, k4⟩
  rw [← run_append] at k1 k2
  exact ⟨he, ⟨h1, R', c', by simpa using k1, k2, k3⟩, k4⟩

theorem fresh_any {w : World} : Calls Tryz.prog 39 #[] w fun e w' => e = .returned (.pointer (some ⟨w.heap.size, 0, none⟩)) ∧ HashAt w' w.heap.size first none 0 0 0 ∧ Below w.heap.size w w' := by
  go_enter Tryz.func39, Tryz.ntmps39
  go_wp2
  go_ret
  exact ⟨rfl, ⟨rfl, heap_alloc_new w _⟩, below_alloc (Below.refl _ w) _⟩

theorem infoState : (Tryz.prog.info? 155).map (·.size) = some 8 := by kernel_rfl
theorem index8 {w : World} (l : List UInt32) (hl : l.length = 8) (k : Nat) (hk : k < 8) : (Instr.index 155 (.agg (u32s l)) (.int .i64 (k : Int))).run Tryz.prog w = .ok (.int .u32 ((l.getD k 0).toNat : Int)) w := by
  obtain ⟨j, hj, hs⟩ := Option.map_eq_some_iff.1 infoU32
  exact run_index_words Tryz.underlying155 (by kernel_rfl) hj hs l hl k hk

theorem byte_of (n m : Nat) : ((n : Int) / 2 ^ m) % 256 = ((UInt8.ofNat (n / 2 ^ m)).toNat : Int) := by
  rw [UInt8.toNat_ofNat']
  simp
theorem one_bsa (w : World) (x : UInt8) : BSA (w.alloc (.cells #[.int .u8 (x.toNat : Int)] 5)) (some ⟨w.heap.size, 0, none⟩) 1 [x] := by
  refine ⟨by simp, by unfold maxLen; omega, (fun e => by cases e), fun ad e j hj => ?_⟩
  cases e
  have hj0 : j = 0 := by simp at hj; omega
  subst hj0
  rw [add_plain]
  exact cell_at (heap_alloc_new w _) rfl
/-- write of a byte that a literal has laid. -/
theorem write_lit {w : World} {B b : Nat} {t : List UInt8} (x : UInt8) (hT : Table w) (hTB : 0 < B) (hB : B ≤ w.heap.size) (h : HasT w B b t) (hn : t.length ≤ 140737488355328) :
    Calls Tryz.prog 40 #[.pointer (some ⟨b, 0, none⟩), .slice (some ⟨w.heap.size, 0, none⟩) 1 1] (w.alloc (.cells #[.int .u8 (x.toNat : Int)] 5)) fun e w' => e = .returned (.tuple #[]) ∧ HasT w' B b (t ++ [x]) ∧ Table w' ∧ Below B w w' := by
  have hb := below_alloc (Below.refl _ w) (.cells #[.int .u8 (x.toNat : Int)] 5)
  have hbl := h.lt
  refine (write_one (hT.below hb) hTB (Nat.le_trans hB hb.size) (h.below hb) (one_bsa w x) (fun ad e => by cases e; show w.heap.size ≠ b; omega) hn).mono ?_
  rintro e w' ⟨he, k1, k2⟩
  have hB' := (hb.mono hB).trans k2
  exact ⟨he, k1, hT.keeps (Keeps.mono (S := fun k => B ≤ k) ⟨hB'.os, hB'.tape, hB'.output, hB'.size, fun k _ hk => hB'.block k (by omega)⟩ (fun _ _ e => e)) (by omega), hB'⟩

def countOf (b : Nat) (w : World) : Nat := match w.cell? ⟨b, 9, none⟩ with
  | some (.int _ n) => n.toNat
  | _ => 0
theorem eightBytes_get (n j : Nat) (hj : j < 8) : (eightBytes n).take (j + 1) = (eightBytes n).take j ++ [UInt8.ofNat (n / 2 ^ (56 - 8 * j))] := by
  rw [List.take_succ_eq_append_getElem (by simp [eightBytes]; omega)]
  congr 2
  simp only [eightBytes, List.getElem_map, List.getElem_range]
  congr 3
  omega
theorem fourBytes_get (x : UInt32) (j : Nat) (hj : j < 4) : (fourBytes x).take (j + 1) = (fourBytes x).take j ++ [UInt8.ofNat (x.toNat / 2 ^ (24 - 8 * j))] := by
  rw [List.take_succ_eq_append_getElem (by simp [fourBytes]; omega)]
  congr 2
  simp only [fourBytes, List.getElem_map, List.getElem_range]
  congr 3
  omega
theorem bytesOf_next (s : List UInt32) (k : Nat) (hk : k < s.length) : bytesOf (s.take (k + 1)) = bytesOf (s.take k) ++ fourBytes (s.getD k 0) := by
  have e : s.getD k 0 = s[k] := by simp [List.getD_eq_getElem?_getD, hk]
  rw [List.take_succ_eq_append_getElem hk, e]
  unfold bytesOf
  rw [List.flatMap_append]
  simp only [List.flatMap_cons, List.flatMap_nil, List.append_nil]
theorem bytesOf_length (s : List UInt32) : (bytesOf s).length = 4 * s.length := by
  induction s with
  | nil => rfl
  | cons x s ih =>
    have : bytesOf (x :: s) = fourBytes x ++ bytesOf s := rfl
    rw [this, List.length_append, ih, fourBytes_length, List.length_cons]
    omega

set_option maxRecDepth 100000 in
set_option maxHeartbeats 3200000 in
theorem end_any {w : World} {B b : Nat} {p : List UInt8} (hT : Table w) (hTB : 0 < B) (hB : B ≤ w.heap.size) (h : HasT w B b p) (hn : p.length ≤ 1000000000000) :
    Calls Tryz.prog 41 #[.pointer (some ⟨b, 0, none⟩)] w fun e w' => e = .returned (.string ⟨(sum256 p).toArray⟩) ∧ Below B w w' := by
  obtain ⟨_, R0, c0, h2, _⟩ := id h
  obtain ⟨x8, x9⟩ := h2.cells
  have a8 : ((p.length : Int) * 8) % 18446744073709551616 = (p.length : Int) * 8 := by omega
  have HW := hid (write_lit 128 hT hTB hB h (by omega))
  obtain ⟨res, hres⟩ : ∃ r, r = sum256 p := ⟨_, rfl⟩
  rw [← hres]
  have HRES := hid hres
  have hN := hid (noughts_spec p.length)
  have hM := hid (noughts_min p.length)
  obtain ⟨nn, hnn⟩ : ∃ n, n = noughts p.length := ⟨_, rfl⟩
  rw [← hnn] at hN hM
  have HNN := hid hnn
  have hn64 : nn ≤ 64 := by rw [hnn]; unfold noughts; omega
  clear h2 h hT hres hnn
  go_enter Tryz.func41, Tryz.ntmps41
  go_wp2_with fail
  refine HW.out.mono ?_
  rintro e w1 ⟨rfl, h1, T1, B1⟩
  clear HW x8 x9 a8
  go_wp2
  go_loopw [] (fun wr => ∃ k : Nat, k ≤ nn ∧ HasT wr B b (p ++ [128] ++ List.replicate k 0) ∧ Table wr ∧ Below B w wr) (fun wr => p.length + 1 + nn - countOf b wr)
  case atStart => exact ⟨0, Nat.zero_le _, by simpa using h1, T1, B1⟩
  case round =>
    clear h1 T1 B1
    obtain ⟨k, hk, hH, hT, hBW⟩ := hrel
    obtain ⟨_, R, c, h2, _⟩ := id hH
    rw [run_rest_length] at h2
    obtain ⟨x8, x9⟩ := h2.cells
    have tl : (p ++ [128] ++ List.replicate k (0 : UInt8)).length = p.length + 1 + k := by simp; omega
    rw [tl] at x8 x9
    have cnt0 := hid (show countOf b wr = p.length + 1 + k by unfold countOf; rw [x9]; simp; omega)
    obtain ⟨m, hm⟩ : ∃ m, m = (p.length + 1 + k) % 64 := ⟨_, rfl⟩
    rw [← hm] at x8
    have hm' := hid hm
    have sB := Nat.le_trans hB hBW.size
    have HH := hid hH
    clear h2 tl hm x9 hH
    by_cases h56 : m = 56
    · have hk2 : k = nn := by have := hM.out k (by have := hm'.out; omega); omega
      have HQ := HH.out
      rw [hk2] at HQ
      have t56 : ((m : Int) != 56) = false := by simp; omega
      obtain ⟨q, hq⟩ : ∃ q, q = p ++ [128] ++ List.replicate nn (0 : UInt8) := ⟨_, rfl⟩
      rw [← hq] at HQ
      have HQE := hid hq
      have ql : q.length = p.length + 1 + nn := by rw [hq]; simp; omega
      clear hk HH hq hk2 hm' cnt0 hM hN
      go_wp2
      go_loopw [4] (fun i wx => ∃ (j : Nat) (y : Int), j ≤ 8 ∧ Hid (y = 56 - 8 * (j : Int)) ∧ i = .int .i64 y ∧ HasT wx B b (q ++ (eightBytes (8 * p.length)).take j) ∧ Table wx ∧ Below B w wx) (fun i _ => (intOf i + 8).toNat)
      case atStart => exact ⟨0, 56, by omega, hid (by omega), rfl, by simpa using HQ, hT, hBW⟩
      case round =>
        clear HQ hT hBW sB x8 t56 h56 m
        obtain ⟨j, y, hj, hy, rfl, hH, hT, hBW⟩ := hrel
        have sB := Nat.le_trans hB hBW.size
        by_cases h8 : j < 8
        · obtain ⟨m, hm⟩ : ∃ m, m = 56 - 8 * j := ⟨_, rfl⟩
          obtain rfl : y = (m : Int) := by have := hy.out; omega
          have hm56 : m ≤ 56 := by omega
          have hm64 : m < 64 := by omega
          have G1 := eightBytes_get (8 * p.length) j h8
          rw [← hm] at G1
          have Bf := byte_of (8 * p.length) m
          rw [show (((8 * p.length : Nat) : Int)) = (p.length : Int) * 8 by omega] at Bf
          obtain ⟨xb, hxb⟩ : ∃ x, x = UInt8.ofNat (8 * p.length / 2 ^ m) := ⟨_, rfl⟩
          rw [← hxb] at G1 Bf
          have el : (eightBytes (8 * p.length)).length = 8 := by simp [eightBytes]
          have HW := hid (write_lit xb hT hTB sB hH (by rw [List.length_append, List.length_take, ql]; omega))
          have HG := hid G1
          have Hj : Hid ((m : Int) - 8 = 56 - 8 * ((j + 1 : Nat) : Int)) := hid (by have := hy.out; omega)
          have w8 : wrap64 ((m : Int) - 8) = (m : Int) - 8 := by unfold wrap64; omega
          clear hm hxb G1 hH hT hy
          go_wp2_with fail
          refine HW.out.mono ?_
          rintro e w2 ⟨rfl, h2, T2, B2⟩
          rw [List.append_assoc, ← HG.out] at h2
          go_wp2
          exact ⟨⟨j + 1, (m : Int) - 8, by omega, Hj, by simp, h2, T2, hBW.trans B2⟩, by simp [intOf]; omega⟩
        · obtain rfl : j = 8 := by omega
          obtain rfl : y = -8 := by have := hy.out; omega
          have eP : q ++ (eightBytes (8 * p.length)).take 8 = padded p := by
            rw [HQE.out, List.take_of_length_le (by simp [eightBytes])]
            unfold padded
            rw [← HNN.out]
          rw [eP] at hH
          obtain ⟨_, R1, c1, h2, _⟩ := id hH
          have lF : (run first (padded p)).1.length = 8 := run_length rfl _
          obtain ⟨FF, hFF⟩ : ∃ f, f = (run first (padded p)).1 := ⟨_, rfl⟩
          rw [← hFF] at h2 lF
          have hR2 : res = bytesOf FF := by rw [HRES.out, hFF]; rfl
          have HR2 := hid hR2
          clear hR2 hFF eP hy hT
          have hb2 := below_alloc (Below.refl _ wr) (.cells #[.pointer none, .slice none 0 0] 162)
          have h3 := h2.below hb2
          have IB0 := Lib.fresh_isBuilder 162 5 wr
          have hBW2 := hBW.alloc sB (.cells #[.pointer none, .slice none 0 0] 162)
          obtain ⟨s0, s1, s2, s3, s4, s5, s6, s7, rfl⟩ := eight lF
          have y0 := h3.cell 0 (by omega)
          have y1 := h3.cell 1 (by omega)
          have y2 := h3.cell 2 (by omega)
          have y3 := h3.cell 3 (by omega)
          have y4 := h3.cell 4 (by omega)
          have y5 := h3.cell 5 (by omega)
          have y6 := h3.cell 6 (by omega)
          have y7 := h3.cell 7 (by omega)
          simp only [List.getD_cons_zero, List.getD_cons_succ] at y0 y1 y2 y3 y4 y5 y6 y7
          obtain ⟨bb, hbb⟩ : ∃ b, b = wr.heap.size := ⟨_, rfl⟩
          have IB1 : IsB B bb (bytesOf ([s0, s1, s2, s3, s4, s5, s6, s7].take 0)) (wr.alloc (.cells #[.pointer none, .slice none 0 0] 162)) := by
            rw [hbb]
            rcases IB0 with ⟨_, k⟩ | ⟨_, k⟩
            · obtain ⟨v, k1, k2, k3⟩ := k
              refine .inl ⟨sB, v, k1, ⟨k2.1, ?_⟩, k3⟩
              rcases k2.2 with k2 | ⟨g, cap, cur, e, hb, r⟩
              · exact .inl k2
              · exact .inr ⟨g, cap, cur, e, Nat.le_trans sB hb, r⟩
            · obtain ⟨v, k1, k2, k3⟩ := k
              refine .inr ⟨sB, v, k1, ⟨k2.1, ?_⟩, k3⟩
              rcases k2.2 with k2 | ⟨g, cap, cur, e, hb, r⟩
              · exact .inl k2
              · exact .inr ⟨g, cap, cur, e, Nat.le_trans sB hb, r⟩
          clear IB0 h2 h3 hH
          obtain ⟨FF, hFF⟩ : ∃ f, f = [s0, s1, s2, s3, s4, s5, s6, s7] := ⟨_, rfl⟩
          have i0 : ∀ (k : Nat), k < 8 → ∀ w : World, (Instr.index 155 (.agg #[.int .u32 (s0.toNat : Int), .int .u32 (s1.toNat : Int), .int .u32 (s2.toNat : Int), .int .u32 (s3.toNat : Int), .int .u32 (s4.toNat : Int), .int .u32 (s5.toNat : Int), .int .u32 (s6.toNat : Int), .int .u32 (s7.toNat : Int)]) (.int .i64 (k : Int))).run Tryz.prog w = .ok (.int .u32 ((FF.getD k 0).toNat : Int)) w := fun k hk w => by
            rw [hFF]
            exact index8 [s0, s1, s2, s3, s4, s5, s6, s7] rfl k hk
          have I0 := hid i0
          have lF8 : FF.length = 8 := by rw [hFF]; rfl
          rw [← hFF] at IB1 HR2
          clear i0 hFF
          go_wp2
          rw [← hbb]
          clear y0 y1 y2 y3 y4 y5 y6 y7 hb2 hBW hbb
          go_loopw [41] (fun i wx => ∃ k : Nat, k ≤ 8 ∧ i = .int .i64 k ∧ IsB B bb (bytesOf (FF.take k)) wx ∧ Below B w wx) (fun i _ => 8 - (intOf i).toNat)
          case atStart => exact ⟨0, Nat.zero_le _, rfl, IB1, hBW2⟩
          case round =>
            clear IB1 hBW2
            obtain ⟨k, hk, rfl, hI, hBW⟩ := hrel
            have sB := Nat.le_trans hB hBW.size
            by_cases hlt : k < 8
            · have t8 : decide ((k : Int) < 8) = true := by simp; omega
              have ik := I0.out k hlt
              obtain ⟨x, hx⟩ : ∃ x, x = FF.getD k 0 := ⟨_, rfl⟩
              rw [← hx] at ik
              have HN := hid (bytesOf_next FF k (by omega))
              rw [← hx] at HN
              have lb : (bytesOf (FF.take k)).length ≤ 32 := by rw [bytesOf_length, List.length_take]; omega
              clear hx
              go_wp2
              go_loopw [8] (fun i wy => ∃ (j : Nat) (y : Int), j ≤ 4 ∧ Hid (y = 24 - 8 * (j : Int)) ∧ i = .int .i64 y ∧ IsB B bb (bytesOf (FF.take k) ++ (fourBytes x).take j) wy ∧ Below B w wy) (fun i _ => (intOf i + 8).toNat)
              case atStart => exact ⟨0, 24, by omega, hid (by omega), rfl, by simpa using hI, hBW⟩
              case round =>
                clear hI hBW sB ik
                obtain ⟨j, y, hj, hy, rfl, hI, hBW⟩ := hrel
                have sB := Nat.le_trans hB hBW.size
                by_cases h4 : j < 4
                · obtain ⟨m, hm⟩ : ∃ m, m = 24 - 8 * j := ⟨_, rfl⟩
                  obtain rfl : y = (m : Int) := by have := hy.out; omega
                  have hm24 : m ≤ 24 := by omega
                  have hm32 : m < 32 := by omega
                  have G1 := fourBytes_get x j h4
                  rw [← hm] at G1
                  have Bf := byte_of x.toNat m
                  obtain ⟨xb, hxb⟩ : ∃ z, z = UInt8.ofNat (x.toNat / 2 ^ m) := ⟨_, rfl⟩
                  rw [← hxb] at G1 Bf
                  have l4 := fourBytes_length x
                  have HW := hid (writeByte_any B bb _ xb wr hI (by rw [List.length_append, List.length_take]; omega) sB)
                  have HG := hid G1
                  have Hj : Hid ((m : Int) - 8 = 24 - 8 * ((j + 1 : Nat) : Int)) := hid (by have := hy.out; omega)
                  have w8 : wrap64 ((m : Int) - 8) = (m : Int) - 8 := by unfold wrap64; omega
                  clear hm hxb G1 hI hy
                  go_wp2_with fail
                  refine HW.out.mono ?_
                  rintro e w2 ⟨rfl, h2, B2⟩
                  rw [List.append_assoc, ← HG.out] at h2
                  go_wp2
                  go_roundw
                  case rel => exact ⟨j + 1, (m : Int) - 8, by omega, Hj, by simp, h2, hBW.trans B2⟩
                  case measure => simp [intOf]; omega
                · obtain rfl : j = 4 := by omega
                  obtain rfl : y = -8 := by have := hy.out; omega
                  have e4 : (fourBytes x).take 4 = fourBytes x := List.take_of_length_le (by rw [fourBytes_length]; exact Nat.le_refl _)
                  rw [e4, ← HN.out] at hI
                  clear e4
                  go_wp2
                  go_roundw
                  case rel => exact ⟨k + 1, by omega, by go_num, hI, hBW⟩
                  case measure => simp [intOf]; omega
            · obtain rfl : k = 8 := by omega
              rw [List.take_of_length_le (by omega), ← HR2.out] at hI
              have hne : res ≠ [] := fun e => by
                have := bytesOf_length FF
                rw [← HR2.out, e] at this
                simp at this
                omega
              have HS := hid (string_some B bb res wr hI hne)
              clear hI hne
              go_wp2_with fail
              refine HS.out.mono ?_
              rintro e w2 ⟨rfl, B2⟩
              go_wp2
              go_ret
              exact ⟨rfl, hBW.trans B2⟩
    · have t56 : ((m : Int) != 56) = true := by simp; omega
      have hk2 : k < nn := by
        rcases Nat.lt_or_ge k nn with e | e
        · exact e
        · have : k = nn := by omega
          have := hN.out
          have := hm'.out
          subst_vars
          omega
      have HW := hid (write_lit 0 hT hTB sB HH.out (by simp; omega))
      go_wp2_with fail
      refine HW.out.mono ?_
      rintro e w2 ⟨rfl, h2, T2, B2⟩
      have cnt2 := hid (show countOf b w2 = p.length + 1 + (k + 1) by
        obtain ⟨_, R, c, h3, _⟩ := h2
        unfold countOf; rw [h3.cells.2]; simp; omega)
      go_wp2
      exact ⟨⟨k + 1, hk2, by simpa [List.replicate_succ'] using h2, T2, hBW.trans B2⟩, by rw [cnt0.out, cnt2.out]; omega⟩
end Go.Proofs.YtdhhaibefifdmaaGreatDoor
