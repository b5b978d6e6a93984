/- The walk of the reference's Sum. -/
import Derived.Test.YtnidgljkbmceaaaGreatDoorPn
import Derived.Test.YtnidgljkbmceaaaGreatDoorG03
set_option linter.unusedVariables false
set_option linter.unusedSimpArgs false
namespace Go.Proofs.YtnidgljkbmceaaaGreatDoor
open Go.RowKit PrintLast
theorem conv_row {w : World} {B c : Nat} {A : Option Addr} {l : List UInt8} (h : Row w B A c l) : (convert 36 9 (.slice A l.length c)).run Tryz.prog w = .ok (.string ⟨l.toArray⟩) w := by
  have hb := h.bsa
  rcases h.2 with ⟨e, h0⟩ | ⟨g, cap, cur, e, _⟩
  · have hl : l = [] := List.eq_nil_of_length_eq_zero h0
    subst hl
    have eA : A = none ∧ c = 0 := by simpa using e
    obtain ⟨rfl, rfl⟩ := eA
    exact run_convert_bytes_nil w 36 5 Tryz.underlying36 Tryz.underlying5 0 0 9 Tryz.underlying9
  · cases e
    rw [run_convert_bytes_arg w 36 5 Tryz.underlying36 Tryz.underlying5 g 0 l.length c (l.map fun x => (x.toNat : Int)) (by simp) (fun i hi => ?_) 9 Tryz.underlying9]
    · congr 2
      unfold strOfNums
      congr 2
      rw [List.map_map]
      conv => rhs; rw [← List.map_id l]
      apply List.map_congr_left
      intro x _
      simp
    · have := hb.2.2.2 _ rfl i hi
      rw [add_plain] at this
      rw [Nat.zero_add, this]
      simp [List.getD_eq_getElem?_getD, hi]
def sliceLen (v : Value) : Nat := match v with
  | .slice _ n _ => n
  | _ => 0
def zeros64 : List UInt32 := List.replicate 64 0
theorem zeros64_row (F : Nat → UInt32) : zeros64 = wrow F 0 := (wrow_zero F).symm
theorem Row.other {w : World} {B c : Nat} {A : Option Addr} {l : List UInt8} (h : Row w B A c l) {b : Nat} {cs : Array Value} {t : TypeId} {fr : Nat × Nat} (hb : w.heap[b]? = some (.cells cs t fr)) (ht : t ≠ 5) : ∀ ad, A = some ad → ad.block ≠ b := (WaitAt.of_own h).other hb ht
theorem Row.keeps {S : Nat → Prop} {w w' : World} {B c : Nat} {A : Option Addr} {l : List UInt8} (h : Row w B A c l) (hk : Keeps S w w') (hn : ∀ ad, A = some ad → ¬ S ad.block) : Row w' B A c l :=
  hk.own h (fun k e => by
    cases A with
    | none => cases e
    | some ad => simp only [Value.ownBlock, Option.some.injEq] at e; subst e; exact hn ad rfl)
theorem Row.place {w : World} {B c : Nat} {A : Option Addr} {l : List UInt8} (h : Row w B A c l) (hl : 0 < l.length) : ∃ g, A = some ⟨g, 0, none⟩ := by
  rcases h.2 with ⟨_, h0⟩ | ⟨g, cap, cur, e, _⟩
  · omega
  · cases e; exact ⟨g, rfl⟩
theorem word_not' (e : UInt32) : (4294967295 - (e.toNat : Int)) % 4294967296 = ((wNot e).toNat : Int) := by
  rw [word_not e]
  exact Int.emod_eq_of_lt (by omega) (word_lt _)
theorem W_split {F : Nat → UInt32} (h : ∀ i, 16 ≤ i → i < 64 → F i = wAdd (wAdd (wAdd (F (i - 16)) (F (i - 7))) (sig0 (F (i - 15)))) (sig1 (F (i - 2)))) (k : Nat) (h16 : 16 ≤ k) (hk : k < 64) :
    ∃ j2 j7 j15 j16 : Nat, ((k : Int) - 2 = (j2 : Int) ∧ wrap64 (j2 : Int) = (j2 : Int) ∧ (((j2 : Int) < 64) = True) ∧ j2 < 64 ∧ j2 < k) ∧ ((k : Int) - 7 = (j7 : Int) ∧ wrap64 (j7 : Int) = (j7 : Int) ∧ (((j7 : Int) < 64) = True) ∧ j7 < 64 ∧ j7 < k) ∧
      ((k : Int) - 15 = (j15 : Int) ∧ wrap64 (j15 : Int) = (j15 : Int) ∧ (((j15 : Int) < 64) = True) ∧ j15 < 64 ∧ j15 < k) ∧ ((k : Int) - 16 = (j16 : Int) ∧ wrap64 (j16 : Int) = (j16 : Int) ∧ (((j16 : Int) < 64) = True) ∧ j16 < 64 ∧ j16 < k) ∧
      F k = wAdd (wAdd (wAdd (F j16) (F j7)) (sig0 (F j15))) (sig1 (F j2)) := by
  have key : ∀ d : Nat, 0 < d → d ≤ 16 → (k : Int) - (d : Int) = ((k - d : Nat) : Int) ∧ wrap64 ((k - d : Nat) : Int) = ((k - d : Nat) : Int) ∧ ((((k - d : Nat) : Int) < 64) = True) ∧ k - d < 64 ∧ k - d < k := fun d h0 h1 => by
    have e : ∃ n, n = k - d := ⟨_, rfl⟩
    obtain ⟨n, hn⟩ := e
    rw [← hn]
    refine ⟨by omega, by unfold wrap64; omega, by simp; omega, by omega, by omega⟩
  exact ⟨k - 2, k - 7, k - 15, k - 16, key 2 (by omega) (by omega), key 7 (by omega) (by omega), key 15 (by omega) (by omega), key 16 (by omega) (by omega), h k h16 hk⟩
set_option maxRecDepth 100000 in
set_option maxHeartbeats 12800000 in
theorem rsum_any {w : World} {A : Option Addr} {c : Nat} {p : List UInt8} (hp : BSA w A c p) (hn : p.length ≤ 1000000000000) :
    Calls Tryz.prog 51 #[.slice A p.length c] w fun e w' => e = .returned (.string ⟨(sum256 p).toArray⟩) ∧ Below w.heap.size w w' := by
  obtain ⟨res, hres⟩ : ∃ r, r = sum256 p := ⟨_, rfl⟩
  rw [← hres]
  have HRES := hid hres
  obtain ⟨B, hB⟩ : ∃ B, B = w.heap.size := ⟨_, rfl⟩
  rw [← hB]
  have HB := hid hB
  have hNsp := hid (noughts_spec p.length)
  have hNmin := hid (noughts_min p.length)
  obtain ⟨nn, hnn⟩ : ∃ n, n = noughts p.length := ⟨_, rfl⟩
  rw [← hnn] at hNsp hNmin
  have HNN := hid hnn
  have hn64 : nn ≤ 64 := by rw [hnn]; unfold noughts; omega
  have z64 : #[Value.int .u32 0, .int .u32 0, .int .u32 0, .int .u32 0, .int .u32 0, .int .u32 0, .int .u32 0, .int .u32 0, .int .u32 0, .int .u32 0, .int .u32 0, .int .u32 0, .int .u32 0, .int .u32 0, .int .u32 0, .int .u32 0, .int .u32 0, .int .u32 0, .int .u32 0, .int .u32 0, .int .u32 0, .int .u32 0, .int .u32 0, .int .u32 0, .int .u32 0, .int .u32 0, .int .u32 0, .int .u32 0, .int .u32 0, .int .u32 0, .int .u32 0, .int .u32 0, .int .u32 0, .int .u32 0, .int .u32 0, .int .u32 0, .int .u32 0, .int .u32 0, .int .u32 0, .int .u32 0, .int .u32 0, .int .u32 0, .int .u32 0, .int .u32 0, .int .u32 0, .int .u32 0, .int .u32 0, .int .u32 0, .int .u32 0, .int .u32 0, .int .u32 0, .int .u32 0, .int .u32 0, .int .u32 0, .int .u32 0, .int .u32 0, .int .u32 0, .int .u32 0, .int .u32 0, .int .u32 0, .int .u32 0, .int .u32 0, .int .u32 0, .int .u32 0] = u32s zeros64 := rfl
  clear hres hnn hB
  go_enter Tryz.func51, Tryz.ntmps51
  go_wp2_with fail
  refine constants_any.mono ?_
  rintro e w1 ⟨rfl, b1⟩
  have hp1 := hp.below b1
  rw [← HB.out] at b1
  have s1 : B ≤ w1.heap.size := by rw [HB.out]; rw [HB.out] at b1; exact b1.size
  clear hp
  go_wp2_with (refine wpList_store_row rfl 184 (.tmp 3) (.tmp 23) rfl w1.heap.size (u32s roundK) rfl rfl 184 _ (heap_alloc_new w1 _) (by kernel_rfl) rfl (u32s_one _) ?_)
  have sz2 : ((w1.alloc (.cells (u32s zeros64) 184)).setRow w1.heap.size (u32s roundK)).heap.size = w1.heap.size + 1 := by simp
  have k2 : WordsAt ((w1.alloc (.cells (u32s zeros64) 184)).setRow w1.heap.size (u32s roundK)) w1.heap.size roundK 184 := setRow_heap _ w1.heap.size _ _ _ _ (heap_alloc_new w1 _)
  have b2 : Below B w ((w1.alloc (.cells (u32s zeros64) 184)).setRow w1.heap.size (u32s roundK)) := below_row (b1.alloc s1 _) s1 _
  have hp2 : BSA ((w1.alloc (.cells (u32s zeros64) 184)).setRow w1.heap.size (u32s roundK)) A c p := hp1.below (below_row (below_alloc (Below.refl _ w1) _) (Nat.le_refl _) _)
  generalize ((w1.alloc (.cells (u32s zeros64) 184)).setRow w1.heap.size (u32s roundK)) = W2 at *
  have h3 : WordsAt (W2.alloc (.cells #[Value.int .u32 1779033703, .int .u32 3144134277, .int .u32 1013904242, .int .u32 2773480762, .int .u32 1359893119, .int .u32 2600822924, .int .u32 528734635, .int .u32 1541459225] 186)) (w1.heap.size + 1) first 186 := by rw [← sz2]; exact heap_alloc_new W2 _
  have a3 := below_alloc (Below.refl _ W2) (.cells #[Value.int .u32 1779033703, .int .u32 3144134277, .int .u32 1013904242, .int .u32 2773480762, .int .u32 1359893119, .int .u32 2600822924, .int .u32 528734635, .int .u32 1541459225] 186)
  have k3 := k2.below a3
  have b3 : Below B w (W2.alloc (.cells #[Value.int .u32 1779033703, .int .u32 3144134277, .int .u32 1013904242, .int .u32 2773480762, .int .u32 1359893119, .int .u32 2600822924, .int .u32 528734635, .int .u32 1541459225] 186)) := b2.alloc (by omega) _
  have hp3 := hp2.below a3
  have sz3 : (W2.alloc (.cells #[Value.int .u32 1779033703, .int .u32 3144134277, .int .u32 1013904242, .int .u32 2773480762, .int .u32 1359893119, .int .u32 2600822924, .int .u32 528734635, .int .u32 1541459225] 186)).heap.size = w1.heap.size + 1 + 1 := by simp [sz2]
  generalize (W2.alloc (.cells #[Value.int .u32 1779033703, .int .u32 3144134277, .int .u32 1013904242, .int .u32 2773480762, .int .u32 1359893119, .int .u32 2600822924, .int .u32 528734635, .int .u32 1541459225] 186)) = W3 at *
  have l4 := lit_bsa W3 128
  rw [sz3] at l4
  have a4 := below_alloc (Below.refl _ W3) (.cells #[.int .u8 ((128 : UInt8).toNat : Int)] 5)
  have h4 := h3.below a4
  have k4 := k3.below a4
  have b4 := b3.alloc (by omega) (.cells #[.int .u8 ((128 : UInt8).toNat : Int)] 5)
  have hp4 := hp3.below a4
  have sz4 : (W3.alloc (.cells #[.int .u8 ((128 : UInt8).toNat : Int)] 5)).heap.size = w1.heap.size + 1 + 1 + 1 := by simp [sz3]
  have HJ := hid (join_any hp4 l4 (by simp; omega))
  obtain ⟨gk, hgk⟩ : ∃ g, g = w1.heap.size := ⟨_, rfl⟩
  obtain ⟨gh, hgh⟩ : ∃ g, g = w1.heap.size + 1 := ⟨_, rfl⟩
  rw [← hgk] at k4
  rw [← hgh] at h4
  have hkh : ¬ gk = gh := by omega
  have hkB : B ≤ gk := by omega
  have hhB : B ≤ gh := by omega
  clear sz2 k2 b2 hp2 h3 a3 k3 b3 hp3 l4 a4 hp4 hp1 b1
  refine HJ.out.mono ?_
  rintro e w5 ⟨R5, c5, rfl, hM⟩
  have s4 : B ≤ (W3.alloc (.cells #[.int .u8 ((128 : UInt8).toNat : Int)] 5)).heap.size := by omega
  have b5 := b4.trans (hM.2.2.mono s4)
  have r5 := (hM.row (by simp)).lower s4
  have h5 := h4.below hM.2.2
  have k5 := k4.below hM.2.2
  clear HJ hM h4 k4 b4 sz4 s4
  rw [← hgh, ← hgk]
  clear hgk hgh sz3 s1
  have P5 : ∃ (k L : Nat) (R : Option Addr) (c : Nat), k ≤ nn ∧ Hid (L = p.length + 1 + k) ∧ Value.slice R5 (p.length + 1) c5 = .slice R L c ∧ Row w5 B R c (p ++ [128] ++ List.replicate k 0) ∧ WordsAt w5 gk roundK 184 ∧ WordsAt w5 gh first 186 ∧ Below B w w5 :=
    ⟨0, p.length + 1, R5, c5, Nat.zero_le _, hid rfl, rfl, by simpa using r5, k5, h5, b5⟩
  clear r5 k5 h5 b5
  go_wp2
  go_loopw [5] (fun v wr => ∃ (k L : Nat) (R : Option Addr) (c : Nat), k ≤ nn ∧ Hid (L = p.length + 1 + k) ∧ v = .slice R L c ∧ Row wr B R c (p ++ [128] ++ List.replicate k 0) ∧ WordsAt wr gk roundK 184 ∧ WordsAt wr gh first 186 ∧ Below B w wr) (fun v _ => p.length + 1 + nn - sliceLen v)
  case atStart => exact P5
  case round =>
    clear P5
    obtain ⟨k, L, R, c', hk, hL, rfl, hR, hK, hH, hBW⟩ := hrel
    have hBw : B ≤ w.heap.size := by rw [HB.out]; exact Nat.le_refl _
    have sB := Nat.le_trans hBw hBW.size
    obtain ⟨m, hm⟩ : ∃ m, m = L % 64 := ⟨_, rfl⟩
    have tm : ((L : Int).tmod 64) = (m : Int) := by rw [Int.tmod_eq_emod_of_nonneg (by omega)]; omega
    have ll : (p ++ [128] ++ List.replicate k (0 : UInt8)).length = L := by rw [hL.out]; simp; omega
    have hLb : L ≤ 2000000000000 := by have := hL.out; omega
    have hm' := hid hm
    clear hm
    by_cases h56 : m = 56
    · have hk2 : k = nn := by have := hNmin.out k (by have := hm'.out; have := hL.out; omega); omega
      have t56 : ((m : Int) != 56) = false := by simp; omega
      subst hk2
      have HNum := num_any (w := wr) (n := 8 * p.length) (m := 8) (Nat.le_refl _)
      have e8 : ((8 * p.length : Nat) : Int) = 8 * (p.length : Int) := by omega
      rw [e8] at HNum
      have HN := hid HNum
      have a8 : (8 * (p.length : Int)) % 18446744073709551616 = 8 * (p.length : Int) := by omega
      have aq : (p.length : Int) % 18446744073709551616 = (p.length : Int) := by omega
      clear HNum e8
      go_wp2_with fail
      refine HN.out.mono ?_
      rintro e w6 ⟨A6, c6, rfl, r6, n6, b6⟩
      have n6' := n6 (by omega)
      have hR6 := hR.below b6
      have hK6 := hK.below b6
      have hH6 := hH.below b6
      have hB6 := hBW.trans (b6.mono sB)
      have s6 := Nat.le_trans sB b6.size
      obtain ⟨a6, rfl⟩ : ∃ a, A6 = some a := by cases A6 with
        | none => exact absurd rfl n6'
        | some a => exact ⟨a, rfl⟩
      have l8 := numBytes_length (8 * p.length) 8
      obtain ⟨QL, hQL0⟩ : ∃ n, n = L + 8 := ⟨_, rfl⟩
      have hQL := hid hQL0
      clear hQL0
      clear HN hR hK hH hBW n6 n6'
      go_wp2_with (refine wpList_appR rfl (.tmp 35) (.tmp 40) rfl B s6 R c' (p ++ [128] ++ List.replicate k 0) (by rw [ll]; rfl) hR6 a6 c6 (numBytes (8 * p.length) 8) (by rw [l8]; rfl) r6.bsa (by rw [ll, l8]; omega) QL (by rw [ll, l8]; exact hQL.out.symm) ?_)
      intro R7 c7 w7 r7 b7 K7 n7
      have o1 := hR6.other hK6 (by decide)
      have o2 := hR6.other hH6 (by decide)
      have hK7 : WordsAt w7 gk roundK 184 := hK6.keeps K7 (fun ⟨ad, e, e'⟩ => o1 ad e e')
      have hH7 : WordsAt w7 gh first 186 := hH6.keeps K7 (fun ⟨ad, e, e'⟩ => o2 ad e e')
      have b67 := hB6.trans b7
      obtain ⟨q, hq⟩ : ∃ q, q = padded p := ⟨_, rfl⟩
      have eq7 : p ++ [128] ++ List.replicate k 0 ++ numBytes (8 * p.length) 8 = q := by rw [hq]; unfold padded; rw [← HNN.out]; rfl
      replace r7 : Row w7 B R7 c7 q := by rw [← eq7]; simpa using r7
      have ql : q.length = QL := by rw [← eq7, List.length_append, ll, l8]; exact hQL.out.symm
      have qw := padded_whole p
      rw [← hq, ql] at qw
      obtain ⟨N, hN⟩ : ∃ N, QL = 64 * N := ⟨QL / 64, by omega⟩
      have HQ := hid hq
      have HN := hid hN
      have QLb : QL ≤ 2000000000008 := by have := hQL.out; omega
      clear o1 o2 hR6 hK6 hH6 r6 b6 b7 K7 n7 hB6 eq7 hq hN qw l8 s6 hNsp hNmin hL ll hm' hQL hn64 HNN hLb
      have qpos : 0 < q.length := by rw [ql]; have := HN.out; rw [HQ.out] at ql; have := padded_length p; omega
      obtain ⟨gq, rfl⟩ := r7.place qpos
      have hcq : QL ≤ c7 := by rw [← ql]; exact r7.bsa.1
      have hcm : c7 ≤ 9223372036854775807 := by have := r7.bsa.2.1; unfold maxLen at this; omega
      have ql' := hid ql
      clear ql qpos
      go_wp2
      go_loopw [6] (fun i wr => ∃ (k av : Nat), k ≤ N ∧ Hid (av = 64 * k) ∧ i = .int .i64 av ∧ av ≤ QL ∧ Row wr B (some ⟨gq, 0, none⟩) c7 q ∧ WordsAt wr gk roundK 184 ∧ WordsAt wr gh (run first (q.take (64 * k))).1 186 ∧ Below B w wr) (fun i _ => QL - (intOf i).toNat)
      case atStart => exact ⟨0, 0, Nat.zero_le _, hid rfl, rfl, Nat.zero_le _, r7, hK7, by simpa [run_short] using hH7, b67⟩
      case round =>
        clear r7 hK7 hH7 b67
        obtain ⟨kb, av, hkb, hav, rfl, hle, hR, hK, hH, hBW⟩ := hrel
        have sB := Nat.le_trans hBw hBW.size
        by_cases hlt : av < QL
        · have tav : decide ((av : Int) < (QL : Int)) = true := by simp; omega
          have hkN : kb < N := by have := hav.out; have := HN.out; omega
          have hroom : av + 64 ≤ QL := by have := hav.out; have := HN.out; omega
          have hlen8 : (run first (q.take (64 * kb))).1.length = 8 := run_length rfl _
          have HNX := hid (run_next first q kb (by have := HN.out; rw [ql'.out]; omega))
          obtain ⟨hs, hhs⟩ : ∃ s, s = (run first (q.take (64 * kb))).1 := ⟨_, rfl⟩
          rw [← hhs] at hH hlen8 HNX
          obtain ⟨blk, hblk⟩ : ∃ b, b = (q.drop (64 * kb)).take 64 := ⟨_, rfl⟩
          rw [← hblk] at HNX
          obtain ⟨m16, hm16⟩ : ∃ m, m = wordsOf blk := ⟨_, rfl⟩
          rw [← hm16] at HNX
          have l16 : m16.length = 16 := by rw [hm16]; exact wordsOf_length _
          have HWF := hid (fun j (hj : j < 16) => show W m16 j = be ((q.drop (av + 4 * j)).take 4) by rw [hm16, W_first blk j hj, hblk, chunk_drop _ _ _ hj, ← hav.out])
          have HWN := hid (fun i h h' => W_next (m := m16) l16 (i := i) h h')
          obtain ⟨F, hF⟩ : ∃ F, F = W m16 := ⟨_, rfl⟩
          rw [← hF] at HWF HWN
          have HF := hid hF
          have al := below_alloc (Below.refl _ wr) (.cells (u32s zeros64) 184)
          have hR1 := hR.below al
          have hK1 := hK.below al
          have hH1 := hH.below al
          have hB1 := hBW.alloc sB (.cells (u32s zeros64) 184)
          have hW1 : WordsAt (wr.alloc (.cells (u32s zeros64) 184)) wr.heap.size (wrow F 0) 184 := by rw [← zeros64_row]; exact heap_alloc_new wr _
          have lk := lt_of_block hK
          have lh := lt_of_block hH
          obtain ⟨gw, hgw⟩ : ∃ g, g = wr.heap.size := ⟨_, rfl⟩
          rw [← hgw] at hW1
          have hwB : B ≤ gw := by omega
          have hwk : ¬ gw = gk := by omega
          have hwh : ¬ gw = gh := by omega
          clear hR hK hH hBW hhs hblk hm16 hF al lk lh
          go_wp2
          rw [← hgw]
          generalize wr.alloc (.cells (u32s zeros64) 184) = W1 at *
          clear hgw
          have oq := hid (hR1.other hW1 (by decide))
          have hKW : Keeps (fun j => j = gw) W1 W1 := Keeps.refl _ _
          go_loopw [8] (fun i wy => ∃ k : Nat, k ≤ 64 ∧ i = .int .i64 k ∧ WordsAt wy gw (wrow F k) 184 ∧ Keeps (fun j => j = gw) W1 wy) (fun i _ => 64 - (intOf i).toNat)
          case atStart => exact ⟨0, Nat.zero_le _, rfl, hW1, hKW⟩
          case round =>
            clear hW1 hKW
            obtain ⟨k, hk, rfl, hW, hKW⟩ := hrel
            by_cases hlt6 : k < 64
            · have t64 : decide ((k : Int) < 64) = true := by simp; omega
              have fk := hW.free k
              have HS := hid (hW.set k (F k))
              rw [wrow_next F k hlt6] at HS
              have HKS := hid (hKW.then (Keeps.set1 wr gw k (.int .u32 ((F k).toNat : Int))) (fun _ _ e => e))
              have ck := hW.cell k (by rw [wrow_length]; exact hlt6)
              rw [wrow_get F k k hlt6, if_neg (by omega)] at ck
              by_cases h16 : k < 16
              · have t16 : decide ((k : Int) < 16) = true := by simp; omega
                obtain ⟨lo, hlo⟩ : ∃ l, l = av + 4 * k := ⟨_, rfl⟩
                have lo4 : lo + 4 ≤ QL := by omega
                have e1 : (av : Int) + 4 * (k : Int) = (lo : Int) := by omega
                have hRk := hR1.keeps hKW (fun ad e e' => oq.out ad e e')
                have hlc : ¬ c7 = lo := by omega
                have hbs : BSA wr (some ⟨gq, lo, none⟩) (c7 - lo) ((q.drop lo).take 4) := by
                  have := ((WaitAt.of_own hRk).drop lo (by rw [ql'.out]; omega)).bsa.take 4
                  simpa using this
                have l4 : ((q.drop lo).take 4).length = 4 := by rw [List.length_take, List.length_drop, ql'.out]; omega
                have RD := readN_any hbs (by omega)
                rw [l4] at RD
                have hFk := HWF.out k h16
                rw [← hlo] at hFk
                have hbr := be_read _ l4
                rw [← hFk] at hbr
                obtain ⟨rn, hrn⟩ : ∃ r, r = readNat ((q.drop lo).take 4) := ⟨_, rfl⟩
                rw [← hrn] at RD hbr
                obtain ⟨x, hx⟩ : ∃ x, x = F k := ⟨_, rfl⟩
                rw [← hx] at hbr HS HKS
                have xl := word_lt x
                have c32 : (rn : Int) % 4294967296 = (x.toNat : Int) := by omega
                have HRD := hid RD
                clear hRk hbs l4 RD hFk hbr hrn hx hW hKW xl hlo
                go_wp2_with fail
                refine HRD.out.mono ?_
                rintro e w9 ⟨rfl, rfl⟩
                go_wp2
                go_roundw
                case rel => exact ⟨k + 1, by omega, by go_num, HS.out, HKS.out⟩
                case measure => simp [intOf]; omega
              · have t16 : decide ((k : Int) < 16) = false := by simp; omega
                obtain ⟨j2, j7, j15, j16, ⟨e2, v2, p2, l2⟩, ⟨e7, v7, p7, l7⟩, ⟨e15, v15, p15, l15⟩, ⟨e16, v16, p16, l16'⟩, hFk⟩ := W_split HWN.out k (Nat.le_of_not_lt h16) hlt6
                have pk : ((k : Int) < 64) = True := eq_true (Int.ofNat_lt.2 hlt6)
                have c2 := hW.cell j2 (by rw [wrow_length]; exact l2.1)
                have c7 := hW.cell j7 (by rw [wrow_length]; exact l7.1)
                have c15 := hW.cell j15 (by rw [wrow_length]; exact l15.1)
                have c16 := hW.cell j16 (by rw [wrow_length]; exact l16'.1)
                rw [wrow_get F k _ l2.1, if_pos l2.2] at c2
                rw [wrow_get F k _ l7.1, if_pos l7.2] at c7
                rw [wrow_get F k _ l15.1, if_pos l15.2] at c15
                rw [wrow_get F k _ l16'.1, if_pos l16'.2] at c16
                clear l2 l7 l15 l16'
                obtain ⟨x2, hx2⟩ : ∃ x, x = F j2 := ⟨_, rfl⟩
                obtain ⟨x7, hx7⟩ : ∃ x, x = F j7 := ⟨_, rfl⟩
                obtain ⟨x15, hx15⟩ : ∃ x, x = F j15 := ⟨_, rfl⟩
                obtain ⟨x16, hx16⟩ : ∃ x, x = F j16 := ⟨_, rfl⟩
                rw [← hx2] at c2 hFk
                rw [← hx7] at c7 hFk
                rw [← hx15] at c15 hFk
                rw [← hx16] at c16 hFk
                have S3 : (x15.toNat : Int) / 8 = ((wShr x15 3).toNat : Int) := word_shr x15 3 (by decide)
                have S10 : (x2.toNat : Int) / 1024 = ((wShr x2 10).toNat : Int) := word_shr x2 10 (by decide)
                have X1 := word_xor (rotr x15 7) (rotr x15 18)
                have X2 := word_xor (wXor (rotr x15 7) (rotr x15 18)) (wShr x15 3)
                have X3 := word_xor (rotr x2 17) (rotr x2 19)
                have X4 := word_xor (wXor (rotr x2 17) (rotr x2 19)) (wShr x2 10)
                rw [show wXor (wXor (rotr x15 7) (rotr x15 18)) (wShr x15 3) = sig0 x15 from rfl] at X2
                rw [show wXor (wXor (rotr x2 17) (rotr x2 19)) (wShr x2 10) = sig1 x2 from rfl] at X4
                have A1 := word_addW x16 x7
                have A2 := word_addW (wAdd x16 x7) (sig0 x15)
                have A3 := word_addW (wAdd (wAdd x16 x7) (sig0 x15)) (sig1 x2)
                rw [← hFk] at A3
                have T1 : ∀ w : World, Calls Tryz.prog 100 #[.int .u32 (x15.toNat : Int), .int .i64 7] w fun e w' => e = .returned (.int .u32 ((rotr x15 7).toNat : Int)) ∧ Below w.heap.size w w' := fun w => turn_any (n := 7) (by decide) (by decide)
                have T2 : ∀ w : World, Calls Tryz.prog 100 #[.int .u32 (x15.toNat : Int), .int .i64 18] w fun e w' => e = .returned (.int .u32 ((rotr x15 18).toNat : Int)) ∧ Below w.heap.size w w' := fun w => turn_any (n := 18) (by decide) (by decide)
                have T3 : ∀ w : World, Calls Tryz.prog 100 #[.int .u32 (x2.toNat : Int), .int .i64 17] w fun e w' => e = .returned (.int .u32 ((rotr x2 17).toNat : Int)) ∧ Below w.heap.size w w' := fun w => turn_any (n := 17) (by decide) (by decide)
                have T4 : ∀ w : World, Calls Tryz.prog 100 #[.int .u32 (x2.toNat : Int), .int .i64 19] w fun e w' => e = .returned (.int .u32 ((rotr x2 19).toNat : Int)) ∧ Below w.heap.size w w' := fun w => turn_any (n := 19) (by decide) (by decide)
                clear hx2 hx7 hx15 hx16 hFk HS HKS
                go_wp2
                refine start_ (n := 10) (S := fun w' => w'.cell? ⟨gw, j15, none⟩ = some (.int .u32 (x15.toNat : Int)) ∧ w'.cell? ⟨gw, j2, none⟩ = some (.int .u32 (x2.toNat : Int))) (ds := []) (tf 10 0) (by kernel_rfl) rfl rfl ⟨c15, c2⟩ (fun hHeld => ?_); refine pure_ (i := 0) (N := some 69) (v := ?_) (a' := ?_) (tf 10 1) rfl rfl (by kernel_rfl) (fun _ _ _ h => h) (Or.inl ⟨by rfl, ?_⟩) ?_ ?_; rotate_left; (· intro w'; go_simp; (with_reducible rfl)); rotate_left; (· simp only [pn_]; rfl); refine pure_ (i := 1) (N := some 70) (v := ?_) (a' := ?_) (tf 10 3) rfl rfl (by kernel_rfl) (fun _ _ _ h => h) (Or.inl ⟨by rfl, ?_⟩) ?_ ?_; rotate_left; (· intro w'; go_simp; (with_reducible rfl)); rotate_left; (· simp only [pn_]; rfl); refine pure_ (i := 2) (N := some 71) (v := ?_) (a' := ?_) (tf 10 7) rfl rfl (by kernel_rfl) (fun _ _ _ h => h) (Or.inl ⟨by rfl, ?_⟩) ?_ ?_; rotate_left; (· intro w'; go_simp; (with_reducible rfl)); rotate_left; (· simp only [pn_]; rfl); refine pure_ (i := 4) (N := some 73) (v := ?_) (a' := ?_) (tf 10 23) rfl rfl (by kernel_rfl) (fun _ _ _ h => h) (Or.inl ⟨by rfl, ?_⟩) ?_ ?_; rotate_left; (· intro w'; go_simp; (with_reducible rfl)); rotate_left; (· simp only [pn_]; rfl); refine pure_ (i := 5) (N := some 74) (v := ?_) (a' := ?_) (tf 10 55) rfl rfl (by kernel_rfl) (fun _ _ _ h => h) (Or.inl ⟨by rfl, ?_⟩) ?_ ?_; rotate_left; (· intro w'; go_simp; (with_reducible rfl)); rotate_left; (· simp only [pn_]; rfl); refine pure_ (i := 6) (N := some 75) (v := ?_) (a' := ?_) (tf 10 119) rfl rfl (by kernel_rfl) (fun _ _ _ h => h) (Or.inl ⟨by rfl, ?_⟩) ?_ ?_; rotate_left; (· intro w'; go_simp; (with_reducible rfl)); rotate_left; (· simp only [pn_]; rfl); refine take_ (i := 3) (N := some 72) (v := ?_) (a' := ?_) (tf 10 127) rfl rfl (by kernel_rfl) (fun _ _ _ h => h) (Or.inl ⟨by rfl, ?_⟩) hHeld ?_ ?_; rotate_left; (· rintro w' ⟨s0, s1⟩; go_simp; (with_reducible rfl)); rotate_left; (· simp only [pn_]; rfl); refine pure_ (i := 8) (N := some 9) (v := ?_) (a' := ?_) (tf 10 383) rfl rfl (by kernel_rfl) (fun _ _ _ h => h) (Or.inl ⟨by rfl, ?_⟩) ?_ ?_; rotate_left; (· intro w'; go_simp; (with_reducible rfl)); rotate_left; (· simp only [pn_]; rfl); refine take_ (i := 7) (N := some 76) (v := ?_) (a' := ?_) (tf 10 511) rfl rfl (by kernel_rfl) (fun _ _ _ h => h) (Or.inl ⟨by rfl, ?_⟩) hHeld ?_ ?_; rotate_left; (· rintro w' ⟨s0, s1⟩; go_simp; (with_reducible rfl)); rotate_left; (· simp only [pn_]; rfl); refine pure_ (i := 9) (N := some 10) (v := ?_) (a' := ?_) (tf 10 1023) rfl rfl (by kernel_rfl) (fun _ _ _ h => h) (Or.inl ⟨by rfl, ?_⟩) ?_ ?_; rotate_left; (· intro w'; go_simp; (with_reducible rfl)); rotate_left; (· simp only [pn_]; rfl); refine done_ (by kernel_rfl) ?_
                clear p2 p15 v2 v15 c2 c15
                go_wp2
                refine start_ (n := 30) (S := fun w' => w'.cell? ⟨gw, j16, none⟩ = some (.int .u32 (x16.toNat : Int)) ∧ w'.cell? ⟨gw, j7, none⟩ = some (.int .u32 (x7.toNat : Int)) ∧ w'.cell? ⟨gw, k, none⟩ = some (.int .u32 ((0 : UInt32).toNat : Int)) ∧ w'.frozen? ⟨gw, k, none⟩ = false) (ds := [29]) (tf 30 0) (by kernel_rfl) rfl rfl ⟨c16, c7, ck, fk⟩ (fun hHeld => ?_); refine pure_ (i := 0) (N := some 77) (v := ?_) (a' := ?_) (tf 30 1) rfl rfl (by kernel_rfl) (fun _ _ _ h => h) (Or.inl ⟨by rfl, ?_⟩) ?_ ?_; rotate_left; (· intro w'; go_simp; (with_reducible rfl)); rotate_left; (· simp only [pn_]; rfl); refine pure_ (i := 1) (N := some 78) (v := ?_) (a' := ?_) (tf 30 3) rfl rfl (by kernel_rfl) (fun _ _ _ h => h) (Or.inl ⟨by rfl, ?_⟩) ?_ ?_; rotate_left; (· intro w'; go_simp; (with_reducible rfl)); rotate_left; (· simp only [pn_]; rfl); refine pure_ (i := 2) (N := some 79) (v := ?_) (a' := ?_) (tf 30 7) rfl rfl (by kernel_rfl) (fun _ _ _ h => h) (Or.inl ⟨by rfl, ?_⟩) ?_ ?_; rotate_left; (· intro w'; go_simp; (with_reducible rfl)); rotate_left; (· simp only [pn_]; rfl); refine pure_ (i := 3) (N := some 80) (v := ?_) (a' := ?_) (tf 30 15) rfl rfl (by kernel_rfl) (fun _ _ _ h => h) (Or.inl ⟨by rfl, ?_⟩) ?_ ?_; rotate_left; (· intro w'; go_simp; (with_reducible rfl)); rotate_left; (· simp only [pn_]; rfl); refine pure_ (i := 5) (N := some 82) (v := ?_) (a' := ?_) (tf 30 47) rfl rfl (by kernel_rfl) (fun _ _ _ h => h) (Or.inl ⟨by rfl, ?_⟩) ?_ ?_; rotate_left; (· intro w'; go_simp; (with_reducible rfl)); rotate_left; (· simp only [pn_]; rfl); refine pure_ (i := 6) (N := some 83) (v := ?_) (a' := ?_) (tf 30 111) rfl rfl (by kernel_rfl) (fun _ _ _ h => h) (Or.inl ⟨by rfl, ?_⟩) ?_ ?_; rotate_left; (· intro w'; go_simp; (with_reducible rfl)); rotate_left; (· simp only [pn_]; rfl); refine pure_ (i := 7) (N := some 84) (v := ?_) (a' := ?_) (tf 30 239) rfl rfl (by kernel_rfl) (fun _ _ _ h => h) (Or.inl ⟨by rfl, ?_⟩) ?_ ?_; rotate_left; (· intro w'; go_simp; (with_reducible rfl)); rotate_left; (· simp only [pn_]; rfl); refine pure_ (i := 10) (N := some 87) (v := ?_) (a' := ?_) (tf 30 1263) rfl rfl (by kernel_rfl) (fun _ _ _ h => h) (Or.inl ⟨by rfl, ?_⟩) ?_ ?_; rotate_left; (· intro w'; go_simp; (with_reducible rfl)); rotate_left; (· simp only [pn_]; rfl); refine pure_ (i := 12) (N := some 89) (v := ?_) (a' := ?_) (tf 30 5359) rfl rfl (by kernel_rfl) (fun _ _ _ h => h) (Or.inl ⟨by rfl, ?_⟩) ?_ ?_; rotate_left; (· intro w'; go_simp; (with_reducible rfl)); rotate_left; (· simp only [pn_]; rfl); refine pure_ (i := 15) (N := some 92) (v := ?_) (a' := ?_) (tf 30 38127) rfl rfl (by kernel_rfl) (fun _ _ _ h => h) (Or.inl ⟨by rfl, ?_⟩) ?_ ?_; rotate_left; (· intro w'; go_simp; (with_reducible rfl)); rotate_left; (· simp only [pn_]; rfl); refine pure_ (i := 16) (N := some 93) (v := ?_) (a' := ?_) (tf 30 103663) rfl rfl (by kernel_rfl) (fun _ _ _ h => h) (Or.inl ⟨by rfl, ?_⟩) ?_ ?_; rotate_left; (· intro w'; go_simp; (with_reducible rfl)); rotate_left; (· simp only [pn_]; rfl); refine pure_ (i := 19) (N := some 96) (v := ?_) (a' := ?_) (tf 30 627951) rfl rfl (by kernel_rfl) (fun _ _ _ h => h) (Or.inl ⟨by rfl, ?_⟩) ?_ ?_; rotate_left; (· intro w'; go_simp; (with_reducible rfl)); rotate_left; (· simp only [pn_]; rfl); refine pure_ (i := 21) (N := some 98) (v := ?_) (a' := ?_) (tf 30 2725103) rfl rfl (by kernel_rfl) (fun _ _ _ h => h) (Or.inl ⟨by rfl, ?_⟩) ?_ ?_; rotate_left; (· intro w'; go_simp; (with_reducible rfl)); rotate_left; (· simp only [pn_]; rfl); refine pure_ (i := 24) (N := some 101) (v := ?_) (a' := ?_) (tf 30 19502319) rfl rfl (by kernel_rfl) (fun _ _ _ h => h) (Or.inl ⟨by rfl, ?_⟩) ?_ ?_; rotate_left; (· intro w'; go_simp; (with_reducible rfl)); rotate_left; (· simp only [pn_]; rfl); refine pure_ (i := 25) (N := some 102) (v := ?_) (a' := ?_) (tf 30 53056751) rfl rfl (by kernel_rfl) (fun _ _ _ h => h) (Or.inl ⟨by rfl, ?_⟩) ?_ ?_; rotate_left; (· intro w'; go_simp; (with_reducible rfl)); rotate_left; (· simp only [pn_]; rfl); refine take_ (i := 4) (N := some 81) (v := ?_) (a' := ?_) (tf 30 53056767) rfl rfl (by kernel_rfl) (fun _ _ _ h => h) (Or.inl ⟨by rfl, ?_⟩) hHeld ?_ ?_; rotate_left; (· rintro w' ⟨s0, s1, s2, s3⟩; go_simp; (with_reducible rfl)); rotate_left; (· simp only [pn_]; rfl); refine take_ (i := 8) (N := some 85) (v := ?_) (a' := ?_) (tf 30 53057023) rfl rfl (by kernel_rfl) (fun _ _ _ h => h) (Or.inl ⟨by rfl, ?_⟩) hHeld ?_ ?_; rotate_left; (· rintro w' ⟨s0, s1, s2, s3⟩; go_simp; (with_reducible rfl)); rotate_left; (· simp only [pn_]; rfl); refine pure_ (i := 9) (N := some 86) (v := ?_) (a' := ?_) (tf 30 53057535) rfl rfl (by kernel_rfl) (fun _ _ _ h => h) (Or.inl ⟨by rfl, ?_⟩) ?_ ?_; rotate_left; (· intro w'; go_simp; (with_reducible rfl)); rotate_left; (· simp only [pn_]; rfl); refine one_ (i := 11) (N := some 88) (tf 30 53059583) rfl rfl (by kernel_rfl) (by decide) (fun K hK => ?_); refine goes_ Tryz.func100 (by kernel_rfl) rfl #[.int .u32 (x15.toNat : Int), .int .i64 7] (by rfl) rfl rfl (by simp only [List.map_toArray, List.map_cons, List.map_nil]; rfl) ?_; (with_reducible refine ((T1 _)).mono ?_); rintro e' wa ⟨rfl, qa⟩; refine ⟨_, rfl, ?_⟩; have a16 := below_cell qa c16; have a7 := below_cell qa c7; have ak := below_cell qa ck; have Wa : WordsAt wa gw (wrow F k) 184 := WordsAt.below (show WordsAt wr.drew.drew gw (wrow F k) 184 from hW) qa; have af := Wa.free k; refine hK.out _ _ ⟨a16, a7, ak, af⟩ (fun hHeld => ?_); clear hK K; refine norm_ (a' := ?_) ?_ ?_; rotate_left; (· show Act.put _ (some 88) _ = _; simp only [pn_]; rfl); refine one_ (i := 13) (N := some 90) (tf 30 53067775) rfl rfl (by kernel_rfl) (by decide) (fun K hK => ?_); refine goes_ Tryz.func100 (by kernel_rfl) rfl #[.int .u32 (x15.toNat : Int), .int .i64 18] (by rfl) rfl rfl (by simp only [List.map_toArray, List.map_cons, List.map_nil]; rfl) ?_; (with_reducible refine ((T2 _)).mono ?_); rintro e' wb ⟨rfl, qb⟩; refine ⟨_, rfl, ?_⟩; have b16 := below_cell qb a16; have b7 := below_cell qb a7; have bk := below_cell qb ak; have Wb : WordsAt wb gw (wrow F k) 184 := WordsAt.below Wa qb; have bf := Wb.free k; refine hK.out _ _ ⟨b16, b7, bk, bf⟩ (fun hHeld => ?_); clear hK K; refine norm_ (a' := ?_) ?_ ?_; rotate_left; (· show Act.put _ (some 90) _ = _; simp only [pn_]; rfl); refine pure_ (i := 14) (N := some 91) (v := ?_) (a' := ?_) (tf 30 53084159) rfl rfl (by kernel_rfl) (fun _ _ _ h => h) (Or.inl ⟨by rfl, ?_⟩) ?_ ?_; rotate_left; (· intro w'; go_simp; (with_reducible rfl)); rotate_left; (· simp only [pn_]; rfl); refine pure_ (i := 17) (N := some 94) (v := ?_) (a' := ?_) (tf 30 53215231) rfl rfl (by kernel_rfl) (fun _ _ _ h => h) (Or.inl ⟨by rfl, ?_⟩) ?_ ?_; rotate_left; (· intro w'; go_simp; (with_reducible rfl)); rotate_left; (· simp only [pn_]; rfl); refine pure_ (i := 18) (N := some 95) (v := ?_) (a' := ?_) (tf 30 53477375) rfl rfl (by kernel_rfl) (fun _ _ _ h => h) (Or.inl ⟨by rfl, ?_⟩) ?_ ?_; rotate_left; (· intro w'; go_simp; (with_reducible rfl)); rotate_left; (· simp only [pn_]; rfl); refine one_ (i := 20) (N := some 97) (tf 30 54525951) rfl rfl (by kernel_rfl) (by decide) (fun K hK => ?_); refine goes_ Tryz.func100 (by kernel_rfl) rfl #[.int .u32 (x2.toNat : Int), .int .i64 17] (by rfl) rfl rfl (by simp only [List.map_toArray, List.map_cons, List.map_nil]; rfl) ?_; (with_reducible refine ((T3 _)).mono ?_); rintro e' wc ⟨rfl, qc⟩; refine ⟨_, rfl, ?_⟩; have d16 := below_cell qc b16; have d7 := below_cell qc b7; have dk := below_cell qc bk; have Wc : WordsAt wc gw (wrow F k) 184 := WordsAt.below Wb qc; have df := Wc.free k; refine hK.out _ _ ⟨d16, d7, dk, df⟩ (fun hHeld => ?_); clear hK K; refine norm_ (a' := ?_) ?_ ?_; rotate_left; (· show Act.put _ (some 97) _ = _; simp only [pn_]; rfl); refine one_ (i := 22) (N := some 99) (tf 30 58720255) rfl rfl (by kernel_rfl) (by decide) (fun K hK => ?_); refine goes_ Tryz.func100 (by kernel_rfl) rfl #[.int .u32 (x2.toNat : Int), .int .i64 19] (by rfl) rfl rfl (by simp only [List.map_toArray, List.map_cons, List.map_nil]; rfl) ?_; (with_reducible refine ((T4 _)).mono ?_); rintro e' wd ⟨rfl, qd⟩; refine ⟨_, rfl, ?_⟩; have g16 := below_cell qd d16; have g7 := below_cell qd d7; have gk' := below_cell qd dk; have Wd : WordsAt wd gw (wrow F k) 184 := WordsAt.below Wc qd; have gf := Wd.free k; refine hK.out _ _ ⟨g16, g7, gk', gf⟩ (fun hHeld => ?_); clear hK K; refine norm_ (a' := ?_) ?_ ?_; rotate_left; (· show Act.put _ (some 99) _ = _; simp only [pn_]; rfl); refine pure_ (i := 23) (N := some 100) (v := ?_) (a' := ?_) (tf 30 67108863) rfl rfl (by kernel_rfl) (fun _ _ _ h => h) (Or.inl ⟨by rfl, ?_⟩) ?_ ?_; rotate_left; (· intro w'; go_simp; (with_reducible rfl)); rotate_left; (· simp only [pn_]; rfl); refine pure_ (i := 26) (N := some 103) (v := ?_) (a' := ?_) (tf 30 134217727) rfl rfl (by kernel_rfl) (fun _ _ _ h => h) (Or.inl ⟨by rfl, ?_⟩) ?_ ?_; rotate_left; (· intro w'; go_simp; (with_reducible rfl)); rotate_left; (· simp only [pn_]; rfl); refine pure_ (i := 27) (N := some 104) (v := ?_) (a' := ?_) (tf 30 268435455) rfl rfl (by kernel_rfl) (fun _ _ _ h => h) (Or.inl ⟨by rfl, ?_⟩) ?_ ?_; rotate_left; (· intro w'; go_simp; (with_reducible rfl)); rotate_left; (· simp only [pn_]; rfl); refine pure_ (i := 28) (N := some 105) (v := ?_) (a' := ?_) (tf 30 536870911) rfl rfl (by kernel_rfl) (fun _ _ _ h => h) (Or.inl ⟨by rfl, ?_⟩) ?_ ?_; rotate_left; (· intro w'; go_simp; (with_reducible rfl)); rotate_left; (· simp only [pn_]; rfl); refine last_ (i := 29) (N := none) (tf 30 1073741823) rfl rfl (by kernel_rfl) (by decide) (fun K hK => ?_); refine skip_ (w1 := ?_) (by rfl) rfl ?_ ?_; rotate_left; (· go_simp; rfl); refine hK.out _ _ ?_; clear hK K; refine done_ (by kernel_rfl) ?_
                have HS := hid (Wd.set k (F k))
                rw [wrow_next F k hlt6] at HS
                have HKd : Keeps (fun j => j = gw) W1 wd := Keeps.below (Keeps.below (Keeps.below (Keeps.below hKW.drew.drew qa) qb) qc) qd
                have HKS := hid (HKd.then (Keeps.set1 wd gw k (.int .u32 ((F k).toNat : Int))) (fun _ _ e => e))
                clear HKd Wa Wb Wc Wd qa qb qc qd a16 a7 ak af b16 b7 bk bf d16 d7 dk df g16 g7 gk' gf c7 c16 ck fk hW hKW S3 S10 X1 X2 X3 X4 A1 A2 A3 T1 T2 T3 T4 p7 p16 pk v7 v16 e2 e7 e15 e16
                go_wp2
                go_roundw
                case rel => exact ⟨k + 1, by omega, by go_num, HS.out, HKS.out⟩
                case measure => simp [intOf]; omega
            · obtain rfl : k = 64 := by omega
              rw [show ((64 : Nat) : Int) = 64 from rfl]
              have sW1 := Nat.le_trans hBw hB1.size
              have hKr := hK1.keeps hKW (fun e => hwk e.symm)
              have hHr := hH1.keeps hKW (fun e => hwh e.symm)
              have hRr := hR1.keeps hKW (fun ad e e' => oq.out ad e e')
              have hBr := hB1.trans (below_of_keeps hKW sW1 (fun k hk => by omega))
              have sBr := Nat.le_trans hBw hBr.size
              obtain ⟨s0, s1, s2, s3, s4, s5, s6, s7, rfl⟩ := eight hlen8
              have x0 := hHr.cell 0 (by simp)
              have x1 := hHr.cell 1 (by simp)
              have x2 := hHr.cell 2 (by simp)
              have x3 := hHr.cell 3 (by simp)
              have x4 := hHr.cell 4 (by simp)
              have x5 := hHr.cell 5 (by simp)
              have x6 := hHr.cell 6 (by simp)
              have x7 := hHr.cell 7 (by simp)
              simp only [List.getD_cons_zero, List.getD_cons_succ] at x0 x1 x2 x3 x4 x5 x6 x7
              have al := below_alloc (Below.refl _ wr) (.cells #[.int .u32 (s0.toNat : Int), .int .u32 (s1.toNat : Int), .int .u32 (s2.toNat : Int), .int .u32 (s3.toNat : Int), .int .u32 (s4.toNat : Int), .int .u32 (s5.toNat : Int), .int .u32 (s6.toNat : Int), .int .u32 (s7.toNat : Int)] 186)
              have hK4 := hKr.below al
              have hW4 := hW.below al
              have hH4 := hHr.below al
              have hR4 := hRr.below al
              have hB4 := hBr.alloc sBr (.cells #[.int .u32 (s0.toNat : Int), .int .u32 (s1.toNat : Int), .int .u32 (s2.toNat : Int), .int .u32 (s3.toNat : Int), .int .u32 (s4.toNat : Int), .int .u32 (s5.toNat : Int), .int .u32 (s6.toNat : Int), .int .u32 (s7.toNat : Int)] 186)
              have hS4 : WordsAt (wr.alloc (.cells #[.int .u32 (s0.toNat : Int), .int .u32 (s1.toNat : Int), .int .u32 (s2.toNat : Int), .int .u32 (s3.toNat : Int), .int .u32 (s4.toNat : Int), .int .u32 (s5.toNat : Int), .int .u32 (s6.toNat : Int), .int .u32 (s7.toNat : Int)] 186)) wr.heap.size (rounds m16 0 [s0, s1, s2, s3, s4, s5, s6, s7]) 186 := heap_alloc_new wr _
              have lk := lt_of_block hKr
              have lh := lt_of_block hHr
              have lw := lt_of_block hW
              obtain ⟨gs, hgs⟩ : ∃ g, g = wr.heap.size := ⟨_, rfl⟩
              rw [← hgs] at hS4
              have hsB : B ≤ gs := by omega
              have hsk : ¬ gs = gk := by omega
              have hsh : ¬ gs = gh := by omega
              have hsw : ¬ gs = gw := by omega
              have L8 : ([s0, s1, s2, s3, s4, s5, s6, s7] : List UInt32).length = 8 := rfl
              clear hKr hHr hRr hBr hW hKW al lk lh lw hK1 hH1 hR1 hB1 oq sW1
              go_wp2
              rw [← hgs]
              generalize wr.alloc (.cells #[.int .u32 (s0.toNat : Int), .int .u32 (s1.toNat : Int), .int .u32 (s2.toNat : Int), .int .u32 (s3.toNat : Int), .int .u32 (s4.toNat : Int), .int .u32 (s5.toNat : Int), .int .u32 (s6.toNat : Int), .int .u32 (s7.toNat : Int)] 186) = W4 at *
              clear x0 x1 x2 x3 x4 x5 x6 x7 hgs sBr
              have oq4 := hid (hR4.other hS4 (by decide))
              have hKS : Keeps (fun j => j = gs) W4 W4 := Keeps.refl _ _
              go_loopw [12] (fun i wy => ∃ k : Nat, k ≤ 64 ∧ i = .int .i64 k ∧ WordsAt wy gs (rounds m16 k [s0, s1, s2, s3, s4, s5, s6, s7]) 186 ∧ Keeps (fun j => j = gs) W4 wy) (fun i _ => 64 - (intOf i).toNat)
              case atStart => exact ⟨0, Nat.zero_le _, rfl, hS4, hKS⟩
              case round =>
                clear hS4 hKS
                obtain ⟨k, hk, rfl, hS, hKS⟩ := hrel
                by_cases hlt7 : k < 64
                · have t64 : decide ((k : Int) < 64) = true := by simp; omega
                  obtain ⟨a, b, c₂, d, e, f, g, h, hst⟩ := eight (rounds_length m16 L8 k)
                  have hnx := hid (show rounds m16 (k + 1) [s0, s1, s2, s3, s4, s5, s6, s7] = step (roundK.getD k 0) (W m16 k) [a, b, c₂, d, e, f, g, h] by rw [← hst]; rfl)
                  rw [hst] at hS
                  have hKr := hK4.keeps hKS (fun e => hsk e.symm)
                  have hWr := hW4.keeps hKS (fun e => hsw e.symm)
                  have yk := hKr.cell k hlt7
                  have yw := hWr.cell k (by rw [wrow_length]; exact hlt7)
                  rw [wrow_get F 64 k hlt7, if_pos hlt7] at yw
                  obtain ⟨kk, hkk⟩ : ∃ x, x = roundK.getD k 0 := ⟨_, rfl⟩
                  obtain ⟨wk, hwk'⟩ : ∃ x, x = F k := ⟨_, rfl⟩
                  rw [← hkk] at yk hnx
                  rw [← HF.out, ← hwk'] at hnx
                  rw [← hwk'] at yw
                  have y0 := hS.cell 0 (by simp)
                  have y1 := hS.cell 1 (by simp)
                  have y2 := hS.cell 2 (by simp)
                  have y4 := hS.cell 4 (by simp)
                  have y5 := hS.cell 5 (by simp)
                  have y6 := hS.cell 6 (by simp)
                  have y7 := hS.cell 7 (by simp)
                  simp only [List.getD_cons_zero, List.getD_cons_succ] at y0 y1 y2 y4 y5 y6 y7
                  have N1 := word_not e
                  have N2 := word_not' e
                  have P1 := word_and e f
                  have P2 := word_and (wNot e) g
                  have P3 := word_or (wAnd e f) (wAnd (wNot e) g)
                  rw [show wOr (wAnd e f) (wAnd (wNot e) g) = choice e f g from rfl] at P3
                  have P4 := word_and a b
                  have P5 := word_and a c₂
                  have P6 := word_xor (wAnd a b) (wAnd a c₂)
                  have P7 := word_and b c₂
                  have P8 := word_xor (wXor (wAnd a b) (wAnd a c₂)) (wAnd b c₂)
                  rw [show wXor (wXor (wAnd a b) (wAnd a c₂)) (wAnd b c₂) = most a b c₂ from rfl] at P8
                  have X1 := word_xor (rotr e 6) (rotr e 11)
                  have X2 := word_xor (wXor (rotr e 6) (rotr e 11)) (rotr e 25)
                  obtain ⟨SS, hSS⟩ : ∃ x, x = wXor (wXor (rotr e 6) (rotr e 11)) (rotr e 25) := ⟨_, rfl⟩
                  obtain ⟨CC, hCC⟩ : ∃ x, x = choice e f g := ⟨_, rfl⟩
                  have hT : roundT kk wk e f g h = wAdd (wAdd (wAdd (wAdd h SS) CC) kk) wk := by rw [hSS, hCC]; rfl
                  rw [← hSS] at X2
                  rw [← hCC] at P3
                  have A1 := word_addW h SS
                  have A2 := word_addW (wAdd h SS) CC
                  have A3 := word_addW (wAdd (wAdd h SS) CC) kk
                  have A4 := word_addW (wAdd (wAdd (wAdd h SS) CC) kk) wk
                  rw [← hT] at A4
                  have T1 : ∀ w : World, Calls Tryz.prog 100 #[.int .u32 (e.toNat : Int), .int .i64 6] w fun r w' => r = .returned (.int .u32 ((rotr e 6).toNat : Int)) ∧ Below w.heap.size w w' := fun w => turn_any (n := 6) (by decide) (by decide)
                  have T2 : ∀ w : World, Calls Tryz.prog 100 #[.int .u32 (e.toNat : Int), .int .i64 11] w fun r w' => r = .returned (.int .u32 ((rotr e 11).toNat : Int)) ∧ Below w.heap.size w w' := fun w => turn_any (n := 11) (by decide) (by decide)
                  have T3 : ∀ w : World, Calls Tryz.prog 100 #[.int .u32 (e.toNat : Int), .int .i64 25] w fun r w' => r = .returned (.int .u32 ((rotr e 25).toNat : Int)) ∧ Below w.heap.size w w' := fun w => turn_any (n := 25) (by decide) (by decide)
                  have U1 : ∀ w : World, Calls Tryz.prog 100 #[.int .u32 (a.toNat : Int), .int .i64 2] w fun r w' => r = .returned (.int .u32 ((rotr a 2).toNat : Int)) ∧ Below w.heap.size w w' := fun w => turn_any (n := 2) (by decide) (by decide)
                  have U2 : ∀ w : World, Calls Tryz.prog 100 #[.int .u32 (a.toNat : Int), .int .i64 13] w fun r w' => r = .returned (.int .u32 ((rotr a 13).toNat : Int)) ∧ Below w.heap.size w w' := fun w => turn_any (n := 13) (by decide) (by decide)
                  have U3 : ∀ w : World, Calls Tryz.prog 100 #[.int .u32 (a.toNat : Int), .int .i64 22] w fun r w' => r = .returned (.int .u32 ((rotr a 22).toNat : Int)) ∧ Below w.heap.size w w' := fun w => turn_any (n := 22) (by decide) (by decide)
                  have Y1 := word_xor (rotr a 2) (rotr a 13)
                  have Y2 := word_xor (wXor (rotr a 2) (rotr a 13)) (rotr a 22)
                  have Y3 := word_add (wXor (wXor (rotr a 2) (rotr a 13)) (rotr a 22)) (most a b c₂)
                  rw [show wAdd (wXor (wXor (rotr a 2) (rotr a 13)) (rotr a 22)) (most a b c₂) = roundU a b c₂ from rfl] at Y3
                  have Y4 := word_add d (roundT kk wk e f g h)
                  have Y5 := word_add (roundT kk wk e f g h) (roundU a b c₂)
                  have pk : ((k : Int) < 64) = True := eq_true (Int.ofNat_lt.2 hlt7)
                  clear hst hkk hwk' hSS hCC hT hKr hWr
                  go_wp2
                  refine start_ (n := 6) (S := fun w' => w'.cell? ⟨gs, 0, none⟩ = some (.int .u32 (a.toNat : Int)) ∧ w'.cell? ⟨gs, 4, none⟩ = some (.int .u32 (e.toNat : Int))) (ds := []) (tf 6 0) (by kernel_rfl) rfl rfl ⟨y0, y4⟩ (fun hHeld => ?_); refine pure_ (i := 0) (N := some 111) (v := ?_) (a' := ?_) (tf 6 1) rfl rfl (by kernel_rfl) (fun _ _ _ h => h) (Or.inl ⟨by rfl, ?_⟩) ?_ ?_; rotate_left; (· intro w'; go_simp; (with_reducible rfl)); rotate_left; (· simp only [pn_]; rfl); refine pure_ (i := 2) (N := some 113) (v := ?_) (a' := ?_) (tf 6 5) rfl rfl (by kernel_rfl) (fun _ _ _ h => h) (Or.inl ⟨by rfl, ?_⟩) ?_ ?_; rotate_left; (· intro w'; go_simp; (with_reducible rfl)); rotate_left; (· simp only [pn_]; rfl); refine take_ (i := 1) (N := some 112) (v := ?_) (a' := ?_) (tf 6 7) rfl rfl (by kernel_rfl) (fun _ _ _ h => h) (Or.inl ⟨by rfl, ?_⟩) hHeld ?_ ?_; rotate_left; (· rintro w' ⟨s0, s1⟩; go_simp; (with_reducible rfl)); rotate_left; (· simp only [pn_]; rfl); refine pure_ (i := 4) (N := some 13) (v := ?_) (a' := ?_) (tf 6 23) rfl rfl (by kernel_rfl) (fun _ _ _ h => h) (Or.inl ⟨by rfl, ?_⟩) ?_ ?_; rotate_left; (· intro w'; go_simp; (with_reducible rfl)); rotate_left; (· simp only [pn_]; rfl); refine take_ (i := 3) (N := some 114) (v := ?_) (a' := ?_) (tf 6 31) rfl rfl (by kernel_rfl) (fun _ _ _ h => h) (Or.inl ⟨by rfl, ?_⟩) hHeld ?_ ?_; rotate_left; (· rintro w' ⟨s0, s1⟩; go_simp; (with_reducible rfl)); rotate_left; (· simp only [pn_]; rfl); refine pure_ (i := 5) (N := some 14) (v := ?_) (a' := ?_) (tf 6 63) rfl rfl (by kernel_rfl) (fun _ _ _ h => h) (Or.inl ⟨by rfl, ?_⟩) ?_ ?_; rotate_left; (· intro w'; go_simp; (with_reducible rfl)); rotate_left; (· simp only [pn_]; rfl); refine done_ (by kernel_rfl) ?_
                  go_wp2
                  refine start_ (n := 22) (S := fun w' => w'.cell? ⟨gs, 7, none⟩ = some (.int .u32 (h.toNat : Int)) ∧ w'.cell? ⟨gk, k, none⟩ = some (.int .u32 (kk.toNat : Int)) ∧ w'.cell? ⟨gw, k, none⟩ = some (.int .u32 (wk.toNat : Int))) (ds := []) (tf 22 0) (by kernel_rfl) rfl rfl ⟨y7, yk, yw⟩ (fun hHeld => ?_); refine pure_ (i := 0) (N := some 140) (v := ?_) (a' := ?_) (tf 22 1) rfl rfl (by kernel_rfl) (fun _ _ _ h => h) (Or.inl ⟨by rfl, ?_⟩) ?_ ?_; rotate_left; (· intro w'; go_simp; (with_reducible rfl)); rotate_left; (· simp only [pn_]; rfl); refine pure_ (i := 2) (N := some 142) (v := ?_) (a' := ?_) (tf 22 5) rfl rfl (by kernel_rfl) (fun _ _ _ h => h) (Or.inl ⟨by rfl, ?_⟩) ?_ ?_; rotate_left; (· intro w'; go_simp; (with_reducible rfl)); rotate_left; (· simp only [pn_]; rfl); refine pure_ (i := 4) (N := some 144) (v := ?_) (a' := ?_) (tf 22 21) rfl rfl (by kernel_rfl) (fun _ _ _ h => h) (Or.inl ⟨by rfl, ?_⟩) ?_ ?_; rotate_left; (· intro w'; go_simp; (with_reducible rfl)); rotate_left; (· simp only [pn_]; rfl); refine pure_ (i := 7) (N := some 147) (v := ?_) (a' := ?_) (tf 22 149) rfl rfl (by kernel_rfl) (fun _ _ _ h => h) (Or.inl ⟨by rfl, ?_⟩) ?_ ?_; rotate_left; (· intro w'; go_simp; (with_reducible rfl)); rotate_left; (· simp only [pn_]; rfl); refine pure_ (i := 11) (N := some 151) (v := ?_) (a' := ?_) (tf 22 2197) rfl rfl (by kernel_rfl) (fun _ _ _ h => h) (Or.inl ⟨by rfl, ?_⟩) ?_ ?_; rotate_left; (· intro w'; go_simp; (with_reducible rfl)); rotate_left; (· simp only [pn_]; rfl); refine pure_ (i := 13) (N := some 153) (v := ?_) (a' := ?_) (tf 22 10389) rfl rfl (by kernel_rfl) (fun _ _ _ h => h) (Or.inl ⟨by rfl, ?_⟩) ?_ ?_; rotate_left; (· intro w'; go_simp; (with_reducible rfl)); rotate_left; (· simp only [pn_]; rfl); refine pure_ (i := 14) (N := some 154) (v := ?_) (a' := ?_) (tf 22 26773) rfl rfl (by kernel_rfl) (fun _ _ _ h => h) (Or.inl ⟨by rfl, ?_⟩) ?_ ?_; rotate_left; (· intro w'; go_simp; (with_reducible rfl)); rotate_left; (· simp only [pn_]; rfl); refine pure_ (i := 17) (N := some 157) (v := ?_) (a' := ?_) (tf 22 157845) rfl rfl (by kernel_rfl) (fun _ _ _ h => h) (Or.inl ⟨by rfl, ?_⟩) ?_ ?_; rotate_left; (· intro w'; go_simp; (with_reducible rfl)); rotate_left; (· simp only [pn_]; rfl); refine pure_ (i := 18) (N := some 158) (v := ?_) (a' := ?_) (tf 22 419989) rfl rfl (by kernel_rfl) (fun _ _ _ h => h) (Or.inl ⟨by rfl, ?_⟩) ?_ ?_; rotate_left; (· intro w'; go_simp; (with_reducible rfl)); rotate_left; (· simp only [pn_]; rfl); refine take_ (i := 1) (N := some 141) (v := ?_) (a' := ?_) (tf 22 419991) rfl rfl (by kernel_rfl) (fun _ _ _ h => h) (Or.inl ⟨by rfl, ?_⟩) hHeld ?_ ?_; rotate_left; (· rintro w' ⟨s0, s1, s2⟩; go_simp; (with_reducible rfl)); rotate_left; (· simp only [pn_]; rfl); refine take_ (i := 15) (N := some 155) (v := ?_) (a' := ?_) (tf 22 452759) rfl rfl (by kernel_rfl) (fun _ _ _ h => h) (Or.inl ⟨by rfl, ?_⟩) hHeld ?_ ?_; rotate_left; (· rintro w' ⟨s0, s1, s2⟩; go_simp; (with_reducible rfl)); rotate_left; (· simp only [pn_]; rfl); refine take_ (i := 19) (N := some 159) (v := ?_) (a' := ?_) (tf 22 977047) rfl rfl (by kernel_rfl) (fun _ _ _ h => h) (Or.inl ⟨by rfl, ?_⟩) hHeld ?_ ?_; rotate_left; (· rintro w' ⟨s0, s1, s2⟩; go_simp; (with_reducible rfl)); rotate_left; (· simp only [pn_]; rfl); refine one_ (i := 3) (N := some 143) (tf 22 977055) rfl rfl (by kernel_rfl) (by decide) (fun K hK => ?_); refine goes_ Tryz.func100 (by kernel_rfl) rfl #[.int .u32 (e.toNat : Int), .int .i64 6] (by rfl) rfl rfl (by simp only [List.map_toArray, List.map_cons, List.map_nil]; rfl) ?_; (with_reducible refine ((T1 _)).mono ?_); rintro e' wa ⟨rfl, qa⟩; refine ⟨_, rfl, ?_⟩; have a7 := below_cell qa y7; have ak := below_cell qa yk; have aw := below_cell qa yw; have Wa : WordsAt wa gs [a, b, c₂, d, e, f, g, h] 186 := WordsAt.below (show WordsAt wr.drew.drew gs [a, b, c₂, d, e, f, g, h] 186 from hS) qa; refine hK.out _ _ ⟨a7, ak, aw⟩ (fun hHeld => ?_); clear hK K; refine norm_ (a' := ?_) ?_ ?_; rotate_left; (· show Act.put _ (some 143) _ = _; simp only [pn_]; rfl); refine one_ (i := 5) (N := some 145) (tf 22 977087) rfl rfl (by kernel_rfl) (by decide) (fun K hK => ?_); refine goes_ Tryz.func100 (by kernel_rfl) rfl #[.int .u32 (e.toNat : Int), .int .i64 11] (by rfl) rfl rfl (by simp only [List.map_toArray, List.map_cons, List.map_nil]; rfl) ?_; (with_reducible refine ((T2 _)).mono ?_); rintro e' wb ⟨rfl, qb⟩; refine ⟨_, rfl, ?_⟩; have b7 := below_cell qb a7; have bk := below_cell qb ak; have bw := below_cell qb aw; have Wb : WordsAt wb gs [a, b, c₂, d, e, f, g, h] 186 := WordsAt.below Wa qb; refine hK.out _ _ ⟨b7, bk, bw⟩ (fun hHeld => ?_); clear hK K; refine norm_ (a' := ?_) ?_ ?_; rotate_left; (· show Act.put _ (some 145) _ = _; simp only [pn_]; rfl); refine pure_ (i := 6) (N := some 146) (v := ?_) (a' := ?_) (tf 22 977151) rfl rfl (by kernel_rfl) (fun _ _ _ h => h) (Or.inl ⟨by rfl, ?_⟩) ?_ ?_; rotate_left; (· intro w'; go_simp; (with_reducible rfl)); rotate_left; (· simp only [pn_]; rfl); refine one_ (i := 8) (N := some 148) (tf 22 977407) rfl rfl (by kernel_rfl) (by decide) (fun K hK => ?_); refine goes_ Tryz.func100 (by kernel_rfl) rfl #[.int .u32 (e.toNat : Int), .int .i64 25] (by rfl) rfl rfl (by simp only [List.map_toArray, List.map_cons, List.map_nil]; rfl) ?_; (with_reducible refine ((T3 _)).mono ?_); rintro e' wc ⟨rfl, qc⟩; refine ⟨_, rfl, ?_⟩; have d7 := below_cell qc b7; have dk := below_cell qc bk; have dw := below_cell qc bw; have Wc : WordsAt wc gs [a, b, c₂, d, e, f, g, h] 186 := WordsAt.below Wb qc; refine hK.out _ _ ⟨d7, dk, dw⟩ (fun hHeld => ?_); clear hK K; refine norm_ (a' := ?_) ?_ ?_; rotate_left; (· show Act.put _ (some 148) _ = _; simp only [pn_]; rfl); refine pure_ (i := 9) (N := some 149) (v := ?_) (a' := ?_) (tf 22 977919) rfl rfl (by kernel_rfl) (fun _ _ _ h => h) (Or.inl ⟨by rfl, ?_⟩) ?_ ?_; rotate_left; (· intro w'; go_simp; (with_reducible rfl)); rotate_left; (· simp only [pn_]; rfl); refine pure_ (i := 10) (N := some 150) (v := ?_) (a' := ?_) (tf 22 978943) rfl rfl (by kernel_rfl) (fun _ _ _ h => h) (Or.inl ⟨by rfl, ?_⟩) ?_ ?_; rotate_left; (· intro w'; go_simp; (with_reducible rfl)); rotate_left; (· simp only [pn_]; rfl); refine pure_ (i := 12) (N := some 152) (v := ?_) (a' := ?_) (tf 22 983039) rfl rfl (by kernel_rfl) (fun _ _ _ h => h) (Or.inl ⟨by rfl, ?_⟩) ?_ ?_; rotate_left; (· intro w'; go_simp; (with_reducible rfl)); rotate_left; (· simp only [pn_]; rfl); refine pure_ (i := 16) (N := some 156) (v := ?_) (a' := ?_) (tf 22 1048575) rfl rfl (by kernel_rfl) (fun _ _ _ h => h) (Or.inl ⟨by rfl, ?_⟩) ?_ ?_; rotate_left; (· intro w'; go_simp; (with_reducible rfl)); rotate_left; (· simp only [pn_]; rfl); refine pure_ (i := 20) (N := some 160) (v := ?_) (a' := ?_) (tf 22 2097151) rfl rfl (by kernel_rfl) (fun _ _ _ h => h) (Or.inl ⟨by rfl, ?_⟩) ?_ ?_; rotate_left; (· intro w'; go_simp; (with_reducible rfl)); rotate_left; (· simp only [pn_]; rfl); refine pure_ (i := 21) (N := some 17) (v := ?_) (a' := ?_) (tf 22 4194303) rfl rfl (by kernel_rfl) (fun _ _ _ h => h) (Or.inl ⟨by rfl, ?_⟩) ?_ ?_; rotate_left; (· intro w'; go_simp; (with_reducible rfl)); rotate_left; (· simp only [pn_]; rfl); refine done_ (by kernel_rfl) ?_
                  have Kc : Keeps (fun j => j = gs) W4 wc := Keeps.below (Keeps.below (Keeps.below hKS.drew.drew qa) qb) qc
                  clear a7 ak aw b7 bk bw d7 dk dw Wa Wb qa qb qc hKS hS y0 y1 y2 y4 y5 y6 y7 yk yw N1 N2 P1 P2 P3 P4 P5 P6 P7 P8 X1 X2 A1 A2 A3 A4 T1 T2 T3 pk
                  go_wp2_with fail
                  refine (U1 _).mono ?_
                  rintro e' wd ⟨rfl, qd⟩
                  go_wp2_with fail
                  refine (U2 _).mono ?_
                  rintro e' we ⟨rfl, qe⟩
                  go_wp2_with fail
                  refine (U3 _).mono ?_
                  rintro e' wf ⟨rfl, qf⟩
                  have Wf := ((Wc.below qd).below qe).below qf
                  have Kf := ((Kc.below qd).below qe).below qf
                  clear Wc Kc qd qe qf U1 U2 U3
                  go_wp2
                  rw [Y3]
                  go_loopw [19] (fun i wz => ∃ j : Nat, j ≤ 7 ∧ i = .int .i64 j ∧ WordsAt wz gs (sh [a, b, c₂, d, e, f, g, h] j) 186 ∧ Keeps (fun j => j = gs) W4 wz) (fun i _ => (intOf i).toNat)
                  case atStart => exact ⟨7, Nat.le_refl _, rfl, by rw [sh_start (l := [a, b, c₂, d, e, f, g, h]) rfl]; exact Wf, Kf⟩
                  case round =>
                    clear Wf Kf
                    obtain ⟨j, hj, rfl, hZ, hKZ⟩ := hrel
                    have lZ := sh_length (l := [a, b, c₂, d, e, f, g, h]) rfl hj
                    by_cases hj0 : 0 < j
                    · obtain ⟨i, hi⟩ : ∃ i, j = i + 1 := ⟨j - 1, by omega⟩
                      have e1 : (j : Int) - 1 = (i : Int) := by omega
                      have hi8 : i < 8 := by omega
                      have hj8 : j < 8 := by omega
                      have hij : i < j := by omega
                      have hi7 : i ≤ 7 := by omega
                      have tj : decide ((0 : Int) < (j : Int)) = true := by simp; omega
                      have c1 := hZ.cell i (by omega)
                      have cj := hZ.cell j (by omega)
                      have fj := hZ.free j
                      have HSz := hZ.set j ((sh [a, b, c₂, d, e, f, g, h] j).getD i 0)
                      have HE : (sh [a, b, c₂, d, e, f, g, h] j).set j ((sh [a, b, c₂, d, e, f, g, h] j).getD i 0) = sh [a, b, c₂, d, e, f, g, h] i := by rw [hi]; exact sh_next (l := [a, b, c₂, d, e, f, g, h]) rfl (by omega)
                      rw [HE] at HSz
                      obtain ⟨x, hx⟩ : ∃ x, x = (sh [a, b, c₂, d, e, f, g, h] j).getD i 0 := ⟨_, rfl⟩
                      rw [← hx] at c1 HSz
                      have HS := hid HSz
                      have HK := hid (hKZ.then (Keeps.set1 wr gs j (.int .u32 (x.toNat : Int))) (fun _ _ e => e))
                      clear HE hx HSz hi hZ hKZ lZ Y1 Y2 Y3 Y4 Y5
                      go_wp2
                      go_roundw
                      case rel => exact ⟨i, hi7, rfl, HS.out, HK.out⟩
                      case measure => simp [intOf]; omega
                    · obtain rfl : j = 0 := by omega
                      have c4 := hZ.cell 4 (by omega)
                      have c0 := hZ.cell 0 (by omega)
                      have f4 := hZ.free 4
                      have f0 := hZ.free 0
                      have c4' : wr.cell? ⟨gs, 4, none⟩ = some (.int .u32 (d.toNat : Int)) := c4
                      have HS1 := hZ.set 4 (wAdd d (roundT kk wk e f g h))
                      have HS2 := HS1.set 0 (wAdd (roundT kk wk e f g h) (roundU a b c₂))
                      have HS : WordsAt ((wr.setCell ⟨gs, 4, none⟩ (.int .u32 ((wAdd d (roundT kk wk e f g h)).toNat : Int))).setCell ⟨gs, 0, none⟩ (.int .u32 ((wAdd (roundT kk wk e f g h) (roundU a b c₂)).toNat : Int))) gs (rounds m16 (k + 1) [s0, s1, s2, s3, s4, s5, s6, s7]) 186 := by rw [hnx.out]; exact HS2
                      have HK := (hKZ.then (Keeps.set1 wr gs 4 (.int .u32 ((wAdd d (roundT kk wk e f g h)).toNat : Int))) (fun _ _ e => e)).then (Keeps.set1 _ gs 0 (.int .u32 ((wAdd (roundT kk wk e f g h) (roundU a b c₂)).toNat : Int))) (fun _ _ e => e)
                      clear c4 HS1 HS2 hZ hKZ lZ hj0 hj
                      go_wp2
                      go_roundw
                      case rel => exact ⟨k + 1, by omega, by go_num, HS, HK⟩
                      case measure => simp [intOf]; omega
                · obtain rfl : k = 64 := by omega
                  obtain ⟨W6, hW6⟩ : ∃ W, W = wr := ⟨_, rfl⟩
                  subst hW6
                  have hK6 := hK4.keeps hKS (fun e => hsk e.symm)
                  have hH6 := hH4.keeps hKS (fun e => hsh e.symm)
                  have hR6 := hR4.keeps hKS (fun ad e e' => oq4.out ad e e')
                  have hB6 := hB4.trans (below_of_keeps hKS (Nat.le_trans hBw hB4.size) (fun k hk => by omega))
                  have lF := rounds_length m16 L8 64
                  have hC := hid (show comp m16 [s0, s1, s2, s3, s4, s5, s6, s7] = List.zipWith wAdd [s0, s1, s2, s3, s4, s5, s6, s7] (rounds m16 64 [s0, s1, s2, s3, s4, s5, s6, s7]) from rfl)
                  obtain ⟨FF, hFF⟩ : ∃ f, f = rounds m16 64 [s0, s1, s2, s3, s4, s5, s6, s7] := ⟨_, rfl⟩
                  rw [← hFF] at hS lF hC
                  obtain ⟨SS, hSS⟩ : ∃ s, s = [s0, s1, s2, s3, s4, s5, s6, s7] := ⟨_, rfl⟩
                  rw [← hSS] at hH6 L8 hC HNX
                  have h60 : WordsAt W6 gh (added SS FF 0) 186 := by simpa [added] using hH6
                  have oq6 := hid (hR6.other h60 (by decide))
                  have hKH : Keeps (fun j => j = gh) W6 W6 := Keeps.refl _ _
                  clear hFF hSS hKS hK4 hW4 hH4 hR4 hB4 oq4 hH6
                  go_wp2
                  go_loopw [20] (fun i wy => ∃ k : Nat, k ≤ 8 ∧ i = .int .i64 k ∧ WordsAt wy gh (added SS FF k) 186 ∧ Keeps (fun j => j = gh) W6 wy) (fun i _ => 8 - (intOf i).toNat)
                  case atStart => exact ⟨0, Nat.zero_le _, rfl, h60, hKH⟩
                  case round =>
                    clear h60 hKH
                    obtain ⟨k, hk, rfl, hH, hKH⟩ := hrel
                    by_cases hlt8 : k < 8
                    · have c1 := hH.cell k (by rw [added_length L8 lF hk]; exact hlt8)
                      rw [added_get L8 lF hlt8] at c1
                      have hSr := hS.keeps hKH hsh
                      have c2 := hSr.cell k (by omega)
                      have f1 := hH.free k
                      have hN := hH.set k (wAdd (SS.getD k 0) (FF.getD k 0))
                      rw [added_next L8 lF hlt8] at hN
                      obtain ⟨xx, hxx⟩ : ∃ x, x = SS.getD k 0 := ⟨_, rfl⟩
                      obtain ⟨yy, hyy⟩ : ∃ x, x = FF.getD k 0 := ⟨_, rfl⟩
                      rw [← hxx] at c1 hN
                      rw [← hyy] at c2 hN
                      have A1 := word_addW xx yy
                      have HN' := hid hN
                      have HK := hid (hKH.then (Keeps.set1 wr gh k (.int .u32 ((wAdd xx yy).toNat : Int))) (fun _ _ e => e))
                      have t8 : decide ((k : Int) < 8) = true := by simp; omega
                      have q8 : ((k : Int) < 8) = True := eq_true (Int.ofNat_lt.2 hlt8)
                      clear hxx hyy hH hKH hN hSr
                      go_wp2
                      refine start_ (n := 9) (S := fun w' => w'.cell? ⟨gh, k, none⟩ = some (.int .u32 (xx.toNat : Int)) ∧ w'.cell? ⟨gs, k, none⟩ = some (.int .u32 (yy.toNat : Int)) ∧ w'.frozen? ⟨gh, k, none⟩ = false) (ds := [8]) (tf 9 0) (by kernel_rfl) rfl rfl ⟨c1, c2, f1⟩ (fun hHeld => ?_); refine pure_ (i := 0) (N := some 194) (v := ?_) (a' := ?_) (tf 9 1) rfl rfl (by kernel_rfl) (fun _ _ _ h => h) (Or.inl ⟨by rfl, ?_⟩) ?_ ?_; rotate_left; (· intro w'; go_simp; (with_reducible rfl)); rotate_left; (· simp only [pn_]; rfl); refine pure_ (i := 1) (N := some 195) (v := ?_) (a' := ?_) (tf 9 3) rfl rfl (by kernel_rfl) (fun _ _ _ h => h) (Or.inl ⟨by rfl, ?_⟩) ?_ ?_; rotate_left; (· intro w'; go_simp; (with_reducible rfl)); rotate_left; (· simp only [pn_]; rfl); refine pure_ (i := 3) (N := some 197) (v := ?_) (a' := ?_) (tf 9 11) rfl rfl (by kernel_rfl) (fun _ _ _ h => h) (Or.inl ⟨by rfl, ?_⟩) ?_ ?_; rotate_left; (· intro w'; go_simp; (with_reducible rfl)); rotate_left; (· simp only [pn_]; rfl); refine pure_ (i := 4) (N := some 198) (v := ?_) (a' := ?_) (tf 9 27) rfl rfl (by kernel_rfl) (fun _ _ _ h => h) (Or.inl ⟨by rfl, ?_⟩) ?_ ?_; rotate_left; (· intro w'; go_simp; (with_reducible rfl)); rotate_left; (· simp only [pn_]; rfl); refine take_ (i := 2) (N := some 196) (v := ?_) (a' := ?_) (tf 9 31) rfl rfl (by kernel_rfl) (fun _ _ _ h => h) (Or.inl ⟨by rfl, ?_⟩) hHeld ?_ ?_; rotate_left; (· rintro w' ⟨s0, s1, s2⟩; go_simp; (with_reducible rfl)); rotate_left; (· simp only [pn_]; rfl); refine take_ (i := 5) (N := some 199) (v := ?_) (a' := ?_) (tf 9 63) rfl rfl (by kernel_rfl) (fun _ _ _ h => h) (Or.inl ⟨by rfl, ?_⟩) hHeld ?_ ?_; rotate_left; (· rintro w' ⟨s0, s1, s2⟩; go_simp; (with_reducible rfl)); rotate_left; (· simp only [pn_]; rfl); refine pure_ (i := 6) (N := some 200) (v := ?_) (a' := ?_) (tf 9 127) rfl rfl (by kernel_rfl) (fun _ _ _ h => h) (Or.inl ⟨by rfl, ?_⟩) ?_ ?_; rotate_left; (· intro w'; go_simp; (with_reducible rfl)); rotate_left; (· simp only [pn_]; rfl); refine pure_ (i := 7) (N := some 201) (v := ?_) (a' := ?_) (tf 9 255) rfl rfl (by kernel_rfl) (fun _ _ _ h => h) (Or.inl ⟨by rfl, ?_⟩) ?_ ?_; rotate_left; (· intro w'; go_simp; (with_reducible rfl)); rotate_left; (· simp only [pn_]; rfl); refine last_ (i := 8) (N := none) (tf 9 511) rfl rfl (by kernel_rfl) (by decide) (fun K hK => ?_); refine skip_ (w1 := ?_) (by rfl) rfl ?_ ?_; rotate_left; (· go_simp; rfl); refine hK.out _ _ ?_; clear hK K; refine done_ (by kernel_rfl) ?_
                      clear q8
                      go_wp2
                      go_roundw
                      case rel => exact ⟨k + 1, by omega, by go_num, HN'.out, HK.out.drew⟩
                      case measure => simp [intOf]; omega
                    · obtain rfl : k = 8 := by omega
                      rw [added_all L8 lF, ← hC.out, ← HNX.out] at hH
                      have hK7 := hK6.keeps hKH hkh
                      have hR7 := hR6.keeps hKH (fun ad e e' => oq6.out ad e e')
                      have hB7 := hB6.trans (below_of_keeps hKH (Nat.le_trans hBw hB6.size) (fun k hk => by omega))
                      have hav' : Hid (av + 64 = 64 * (kb + 1)) := hid (by have := hav.out; omega)
                      clear hK6 hR6 hB6 hKH hS
                      go_wp2
                      go_roundw
                      case rel => exact ⟨kb + 1, av + 64, hkN, hav', by go_num, hroom, hR7, hK7, hH, hB7⟩
                      case measure => simp [intOf]; omega
        · have haq : av = QL := by omega
          have tav : decide ((av : Int) < (QL : Int)) = false := by simp; omega
          have hkN : q.length ≤ 64 * kb := by rw [ql'.out]; have := hav.out; omega
          rw [List.take_of_length_le hkN] at hH
          have lS : (run first q).1.length = 8 := run_length rfl _
          have HR2 := hid (show res = bytesOf (run first q).1 by rw [HRES.out, HQ.out]; rfl)
          obtain ⟨SS, hSS⟩ : ∃ s, s = (run first q).1 := ⟨_, rfl⟩
          rw [← hSS] at hH lS HR2
          have P9 : ∃ (k L : Nat) (R : Option Addr) (c : Nat), k ≤ 8 ∧ Hid (L = 4 * k) ∧ Value.int .i64 0 = .int .i64 k ∧ Value.slice none 0 0 = .slice R L c ∧ Row wr B R c (bytesOf (SS.take k)) ∧ WordsAt wr gh SS 186 ∧ Below B w wr :=
            ⟨0, 0, none, 0, by omega, hid rfl, rfl, rfl, Row.nil _ _, hH, hBW⟩
          clear hR hK hH hBW hkN hSS haq
          go_wp2
          go_loopw [21, 22] (fun v i wy => ∃ (k L : Nat) (R : Option Addr) (c : Nat), k ≤ 8 ∧ Hid (L = 4 * k) ∧ i = .int .i64 k ∧ v = .slice R L c ∧ Row wy B R c (bytesOf (SS.take k)) ∧ WordsAt wy gh SS 186 ∧ Below B w wy) (fun _ i _ => 8 - (intOf i).toNat)
          case atStart => exact P9
          case round =>
            clear P9
            obtain ⟨k, L9, R9, c9, hk9, hL9, rfl, rfl, hR, hH, hBW⟩ := hrel
            have sB9 := Nat.le_trans hBw hBW.size
            have lb : (bytesOf (SS.take k)).length = L9 := by rw [bytesOf_length, List.length_take, hL9.out]; omega
            by_cases hlt9 : k < 8
            · have t8 : decide ((k : Int) < 8) = true := by simp; omega
              have cx := hH.cell k (by omega)
              have HN9 := hid (bytesOf_next SS k (by omega))
              obtain ⟨x, hx⟩ : ∃ x, x = SS.getD k 0 := ⟨_, rfl⟩
              rw [← hx] at cx HN9
              have xl := word_lt x
              have ax : (x.toNat : Int) % 18446744073709551616 = (x.toNat : Int) := by omega
              have HU := hid (num_any (w := wr) (n := x.toNat) (m := 4) (by omega))
              have L32 : L9 ≤ 32 := by have := hL9.out; omega
              have hL9' : Hid (L9 + 4 = 4 * (k + 1)) := hid (by have := hL9.out; omega)
              clear hx
              go_wp2_with fail
              refine HU.out.mono ?_
              rintro e w6 ⟨A6, c6, rfl, r6, n6, b6⟩
              have n6' := n6 (by omega)
              obtain ⟨a6, rfl⟩ : ∃ a, A6 = some a := by cases A6 with
                | none => exact absurd rfl n6'
                | some a => exact ⟨a, rfl⟩
              have hR6 := hR.below b6
              have hH6 := hH.below b6
              have hB6 := hBW.trans (b6.mono sB9)
              have s6 := Nat.le_trans sB9 b6.size
              have l4 := numBytes_length x.toNat 4
              clear HU hR hH hBW n6 n6' cx
              go_wp2_with (refine wpList_appR rfl (.tmp 206) (.tmp 211) rfl B s6 R9 c9 (bytesOf (SS.take k)) (by rw [lb]; rfl) hR6 a6 c6 (numBytes x.toNat 4) (by rw [l4]; rfl) r6.bsa (by rw [lb, l4]; omega) (L9 + 4) (by rw [lb, l4]) ?_)
              intro R7' c7' w7' r7' b7' K7' n7'
              have o2 := hR6.other hH6 (by decide)
              have hH7' : WordsAt w7' gh SS 186 := hH6.keeps K7' (fun ⟨ad, e, e'⟩ => o2 ad e e')
              have b67' := hB6.trans b7'
              have r8' : Row w7' B R7' c7' (bytesOf (SS.take (k + 1))) := by rw [HN9.out]; exact r7'
              clear o2 hR6 hH6 r6 b6 b7' K7' n7' hB6 r7' lb
              go_wp2
              go_roundw
              case rel => exact ⟨k + 1, L9 + 4, R7', c7', by omega, hL9', by go_num, rfl, r8', hH7', b67'⟩
              case measure => simp [intOf]; omega
            · obtain rfl : k = 8 := by omega
              rw [List.take_of_length_le (by omega), ← HR2.out] at hR lb
              have CV := conv_row hR
              rw [lb] at CV
              clear hR lb hH
              go_wp2
              go_ret
              exact ⟨rfl, hBW⟩
    · have t56 : ((m : Int) != 56) = true := by simp; omega
      have hk2 : k < nn := by
        rcases Nat.lt_or_ge k nn with e | e
        · exact e
        · have := hNsp.out
          have := hm'.out
          have := hL.out
          have : k = nn := by omega
          subst this
          omega
      have al := below_alloc (Below.refl _ wr) (.cells #[.int .u8 ((0 : UInt8).toNat : Int)] 5)
      have hRa := hR.below al
      have hKa := hK.below al
      have hHa := hH.below al
      have hBa := hBW.alloc sB (.cells #[.int .u8 ((0 : UInt8).toNat : Int)] 5)
      clear hR hK hH hBW
      go_wp2_with (refine wpList_appR rfl (.tmp 32) (.tmp 33) rfl B (Nat.le_trans sB al.size) R c' (p ++ [128] ++ List.replicate k 0) (by rw [ll]; rfl) hRa _ 1 [0] rfl (lit_bsa wr 0) (by rw [ll]; simp; omega) (L + 1) (by rw [ll]; rfl) ?_)
      intro R7 c7 w7 r7 b7 K7 n7
      have o1 := hRa.other hKa (by decide)
      have o2 := hRa.other hHa (by decide)
      have hK7 : WordsAt w7 gk roundK 184 := hKa.keeps K7 (fun ⟨ad, e, e'⟩ => o1 ad e e')
      have hH7 : WordsAt w7 gh first 186 := hHa.keeps K7 (fun ⟨ad, e, e'⟩ => o2 ad e e')
      have b67 := hBa.trans b7
      have HL : Hid (L + 1 = p.length + 1 + (k + 1)) := hid (by have := hL.out; omega)
      clear o1 o2 hRa hKa hHa al b7 K7 n7 hBa
      go_wp2
      exact ⟨⟨k + 1, L + 1, R7, c7, by omega, HL, rfl, by simpa [List.replicate_succ'] using r7, hK7, hH7, b67⟩, by simp [sliceLen]; have := hL.out; omega⟩
end Go.Proofs.YtnidgljkbmceaaaGreatDoor
