/- The walk of eat: a block. -/
import Derived.Test.YtnidgljkbmceaaaGreatDoorPn
import Derived.Test.YtnidgljkbmceaaaGreatDoorG01
import Derived.ArgAppend
set_option linter.unusedVariables false
set_option linter.unusedSimpArgs false
namespace Go.Proofs.YtnidgljkbmceaaaGreatDoor
open Go.RowKit PrintLast
def Table (w : World) : Prop := ∃ t fr, w.heap[1]? = some (.cells (u32s roundK) t fr)
theorem Table.keeps {S : Nat → Prop} {w w' : World} (h : Table w) (hk : Keeps S w w') (hn : ¬ S 1) : Table w' := by
  obtain ⟨t, fr, h⟩ := h
  exact ⟨t, fr, hk.heap h hn⟩
theorem Table.below {w w' : World} (h : Table w) (hb : Below w.heap.size w w') : Table w' := h.keeps (S := fun _ => False) (Keeps.of_below hb) (fun e => e)
theorem Table.pos {w : World} (h : Table w) : 1 < w.heap.size := by
  obtain ⟨t, fr, h⟩ := h
  exact lt_of_block h
def HashAt (w : World) (b : Nat) (s : List UInt32) (R : Option Addr) (m c n : Nat) : Prop :=
  s.length = 8 ∧ w.heap[b]? = some (.cells (u32s s ++ #[.slice R m c, .int .u64 (n : Int)]) 199 (0, 0))
theorem u32s_append_get (l : List UInt32) (X : Array Value) (i : Nat) (h : i < l.length) : (u32s l ++ X)[i]? = some (.int .u32 ((l.getD i 0).toNat : Int)) := by
  rw [Array.getElem?_append_left (by rw [u32s_size]; exact h)]
  exact u32s_get l i h
theorem u32s_append_set (l : List UInt32) (X : Array Value) (i : Nat) (h : i < l.length) (x : UInt32) : (u32s l ++ X).setIfInBounds i (.int .u32 (x.toNat : Int)) = u32s (l.set i x) ++ X := by
  rw [← u32s_set]
  exact Array.setIfInBounds_append_left (by rw [u32s_size]; exact h)
theorem HashAt.cell {w : World} {b m c n : Nat} {R : Option Addr} {s : List UInt32} (h : HashAt w b s R m c n) (i : Nat) (hi : i < 8) : w.cell? ⟨b, i, none⟩ = some (.int .u32 ((s.getD i 0).toNat : Int)) :=
  cell_at h.2 (u32s_append_get s _ i (by rw [h.1]; exact hi))
theorem HashAt.free {w : World} {b m c n : Nat} {R : Option Addr} {s : List UInt32} (h : HashAt w b s R m c n) (i : Nat) : w.frozen? ⟨b, i, none⟩ = false := free_at h.2 i
theorem HashAt.set {w : World} {b m c n : Nat} {R : Option Addr} {s : List UInt32} (h : HashAt w b s R m c n) (i : Nat) (hi : i < 8) (x : UInt32) : HashAt (w.setCell ⟨b, i, none⟩ (.int .u32 (x.toNat : Int))) b (s.set i x) R m c n := by
  refine ⟨by simpa using h.1, ?_⟩
  rw [heap_set h.2, u32s_append_set s _ i (by rw [h.1]; exact hi)]
theorem HashAt.keeps {S : Nat → Prop} {w w' : World} {b m c n : Nat} {R : Option Addr} {s : List UInt32} (h : HashAt w b s R m c n) (hk : Keeps S w w') (hn : ¬ S b) : HashAt w' b s R m c n := ⟨h.1, hk.heap h.2 hn⟩
theorem HashAt.below {w w' : World} {b m c n : Nat} {R : Option Addr} {s : List UInt32} (h : HashAt w b s R m c n) (hb : Below w.heap.size w w') : HashAt w' b s R m c n := ⟨h.1, below_heap hb h.2⟩
def added (s f : List UInt32) (i : Nat) : List UInt32 := (List.zipWith wAdd s f).take i ++ s.drop i
theorem added_length {s f : List UInt32} (hs : s.length = 8) (hf : f.length = 8) {i : Nat} (hi : i ≤ 8) : (added s f i).length = 8 := by simp [added, hs, hf]; omega
theorem added_get {s f : List UInt32} (hs : s.length = 8) (hf : f.length = 8) {i : Nat} (hi : i < 8) : (added s f i).getD i 0 = s.getD i 0 := by
  simp [added, List.getD_eq_getElem?_getD, List.getElem?_append, hs, hf, show ¬ i < min i 8 by omega, show min i 8 = i by omega]
theorem added_next {s f : List UInt32} (hs : s.length = 8) (hf : f.length = 8) {i : Nat} (hi : i < 8) : (added s f i).set i (wAdd (s.getD i 0) (f.getD i 0)) = added s f (i + 1) := by
  obtain ⟨a, b, c, d, e, g, h, k, rfl⟩ := eight hs
  obtain ⟨a', b', c', d', e', g', h', k', rfl⟩ := eight hf
  have : i = 0 ∨ i = 1 ∨ i = 2 ∨ i = 3 ∨ i = 4 ∨ i = 5 ∨ i = 6 ∨ i = 7 := by omega
  rcases this with rfl | rfl | rfl | rfl | rfl | rfl | rfl | rfl <;> rfl
theorem added_all {s f : List UInt32} (hs : s.length = 8) (hf : f.length = 8) : added s f 8 = List.zipWith wAdd s f := by
  simp [added, hs, hf, List.take_of_length_le]
def ringBytes (p : List UInt8) (k : Nat) : List UInt32 := (List.range 16).map fun j => be (chunk (p.take k) j)
theorem ringBytes_length (p : List UInt8) (k : Nat) : (ringBytes p k).length = 16 := by simp [ringBytes]
theorem ringBytes_zero (p : List UInt8) : ringBytes p 0 = List.replicate 16 0 := by simp [ringBytes, chunk, be]; rfl
theorem ringBytes_all (p : List UInt8) (h : p.length = 64) : ringBytes p 64 = wordsOf p := by
  unfold ringBytes wordsOf
  rw [List.take_of_length_le (by omega)]
theorem chunk_other {p : List UInt8} {k j : Nat} (hk : k < p.length) (hj : j ≠ k / 4) : chunk (p.take (k + 1)) j = chunk (p.take k) j := by
  unfold chunk
  rw [List.take_succ_eq_append_getElem hk]
  by_cases h : 4 * j ≤ k
  · rw [List.drop_append_of_le_length (by simp; omega), List.take_append_of_le_length (by simp; omega)]
  · rw [List.drop_eq_nil_of_le (by simp; omega), List.drop_eq_nil_of_le (by simp; omega)]
theorem chunk_own {p : List UInt8} {k : Nat} (hk : k < p.length) : chunk (p.take (k + 1)) (k / 4) = chunk (p.take k) (k / 4) ++ [p[k]] := by
  unfold chunk
  rw [List.take_succ_eq_append_getElem hk, List.drop_append_of_le_length (by simp; omega)]
  have e1 : ((p.take k).drop (4 * (k / 4)) ++ [p[k]]).length ≤ 4 := by simp; omega
  have e2 : ((p.take k).drop (4 * (k / 4))).length ≤ 4 := by simp; omega
  rw [List.take_of_length_le e1, List.take_of_length_le e2]
theorem be_append (l : List UInt8) (b : UInt8) : be (l ++ [b]) = wOr (wShl (be l) 8) b.toUInt32 := by simp [be]
theorem ringBytes_get (p : List UInt8) (k j : Nat) (hj : j < 16) : (ringBytes p k).getD j 0 = be (chunk (p.take k) j) := by
  simp [ringBytes, List.getD_eq_getElem?_getD, hj]
theorem ringBytes_next {p : List UInt8} {k : Nat} (hk : k < p.length) (h64 : p.length = 64) : ringBytes p (k + 1) = (ringBytes p k).set (k / 4) (wOr (wShl ((ringBytes p k).getD (k / 4) 0) 8) p[k].toUInt32) := by
  rw [ringBytes_get p k (k / 4) (by omega), ← be_append, ← chunk_own hk]
  apply List.ext_getElem
  · simp [ringBytes]
  · intro j h1 h2
    have hj : j < 16 := by simpa [ringBytes] using h1
    rw [List.getElem_set]
    by_cases e : k / 4 = j
    · subst e
      simp [ringBytes]
    · rw [if_neg e]
      simp only [ringBytes, List.getElem_map, List.getElem_range]
      rw [chunk_other hk (fun e' => e e'.symm)]
theorem word_byte (x : UInt32) (b : UInt8) : bits .or .u32 ((wShl x 8).toNat : Int) (b.toNat : Int) = ((wOr (wShl x 8) b.toUInt32).toNat : Int) := by
  rw [← word_or, UInt8.toNat_toUInt32]
theorem infoU32 : (Tryz.prog.info? 183).map (·.size) = some 1 := by kernel_rfl
theorem index64 {w : World} (l : List UInt32) (hl : l.length = 64) (k : Nat) (hk : k < 64) : (Instr.index 184 (.agg (u32s l)) (.int .i64 (k : Int))).run Tryz.prog w = .ok (.int .u32 ((l.getD k 0).toNat : Int)) w := by
  obtain ⟨j, hj, hs⟩ := Option.map_eq_some_iff.1 infoU32
  exact run_index_words Tryz.underlying184 (by kernel_rfl) hj hs l hl k hk
theorem word_byte8 (y : UInt32) (b : UInt8) : bits .or .u32 ((y.toNat : Int) * 256 % 4294967296) ((b.toNat : Int) % 4294967296) = ((wOr (wShl y 8) b.toUInt32).toNat : Int) := by
  rw [← word_byte, ← word_shl y 8 (by omega)]
  have := b.toNat_lt
  rw [Int.emod_eq_of_lt (a := (b.toNat : Int)) (by omega) (by omega)]
  rfl
set_option maxRecDepth 100000 in
set_option maxHeartbeats 1600000 in
theorem eat_any {w : World} {b m c n c' : Nat} {R A : Option Addr} {s : List UInt32} {p : List UInt8} (hT : Table w) (hh : HashAt w b s R m c n) (hp : BSA w A c' p) (h64 : p.length = 64) :
    Calls Tryz.prog 105 #[.pointer (some ⟨b, 0, none⟩), .slice A 64 c'] w fun e w' => e = .returned (.tuple #[]) ∧ HashAt w' b (comp (wordsOf p) s) R m c n ∧ Keeps (fun j => j = b) w w' := by
  have hb := lt_of_block hh.2
  have hpb : ∀ ad, A = some ad → ad.block < w.heap.size := fun ad e => by
    have := World.block_lt_of_cell? w _ (hp.2.2.2 ad e 0 (by omega))
    have e0 : (ad.add 0).block = ad.block := by unfold Addr.add; split <;> rfl
    omega
  have H64 := hid h64
  obtain ⟨m16, hm0⟩ : ∃ l, l = wordsOf p := ⟨_, rfl⟩
  have l16 : m16.length = 16 := by rw [hm0]; exact wordsOf_length p
  obtain ⟨s0, s1, s2, s3, s4, s5, s6, s7, rfl⟩ := eight hh.1
  rw [← hm0]
  have hm16 := hid hm0
  clear hm0
  have z16 : #[Value.int .u32 0, .int .u32 0, .int .u32 0, .int .u32 0, .int .u32 0, .int .u32 0, .int .u32 0, .int .u32 0, .int .u32 0, .int .u32 0, .int .u32 0, .int .u32 0, .int .u32 0, .int .u32 0, .int .u32 0, .int .u32 0] = u32s (ringBytes p 0) := by rw [ringBytes_zero]; rfl
  have K0 : Keeps (fun j => j = w.heap.size) w (w.alloc (.cells (u32s (ringBytes p 0)) 266)) := (Keeps.refl _ w).alloc _
  have R0 : WordsAt (w.alloc (.cells (u32s (ringBytes p 0)) 266)) w.heap.size (ringBytes p 0) 266 := heap_alloc_new w _
  have pw : ∀ ad, A = some ad → ad.block ≠ w.heap.size := fun ad e => by have := hpb ad e; omega
  obtain ⟨g1, hg1⟩ : ∃ g, g = w.heap.size := ⟨_, rfl⟩
  rw [← hg1] at K0 R0 pw
  have G1 := hid hg1
  clear h64
  go_enter Tryz.func105, Tryz.ntmps105
  go_wp2
  rw [← hg1]
  clear z16 hg1
  go_loopw [15] (fun i wr => ∃ k : Nat, k ≤ 64 ∧ i = .int .i64 k ∧ WordsAt wr g1 (ringBytes p k) 266 ∧ Keeps (fun j => j = g1) w wr) (fun i _ => 64 - (intOf i).toNat)
  case atStart => exact ⟨0, Nat.zero_le _, rfl, R0, K0⟩
  case round =>
    clear K0 R0
    obtain ⟨k, hk, rfl, hR, hK⟩ := hrel
    by_cases hlt : k < 64
    · have hk' : k < p.length := by rw [H64.out]; exact hlt
      obtain ⟨ad, rfl, cx⟩ := hp.cell k hk'
      have cy := hK.cell cx (by have e0 : (ad.add k).block = ad.block := by unfold Addr.add; split <;> rfl
                                rw [e0]; exact pw ad rfl)
      have q4 : (k : Int).tdiv 4 = ((k / 4 : Nat) : Int) := by rw [Int.tdiv_eq_ediv_of_nonneg (by omega)]; omega
      obtain ⟨y, hy⟩ : ∃ y, y = (ringBytes p k).getD (k / 4) 0 := ⟨_, rfl⟩
      have c4 := hR.cell (k / 4) (by rw [ringBytes_length]; omega)
      have f4 := hR.free (k / 4)
      have HR := hid (hR.set (k / 4) (wOr (wShl y 8) p[k].toUInt32))
      rw [hy, ← ringBytes_next hk' H64.out, ← hy] at HR
      rw [← hy] at c4
      have B8 := word_byte8 y p[k]
      obtain ⟨z, hz⟩ : ∃ z, z = wOr (wShl y 8) p[k].toUInt32 := ⟨_, rfl⟩
      rw [← hz] at B8 HR
      have HK := hid (hK.then (Keeps.set1 wr g1 (k / 4) (.int .u32 (z.toNat : Int))) (fun _ _ e => e))
      clear hR hK cx hy hz
      go_wp2
      exact ⟨⟨k + 1, by omega, by go_num, HR.out, HK.out⟩, by simp [intOf]; omega⟩
    · have hk64 : k = 64 := by omega
      subst hk64
      rw [ringBytes_all p H64.out] at hR
      rw [← hm16.out] at hR
      have hh2 : w.heap[b]? = some (.cells #[.int .u32 (s0.toNat : Int), .int .u32 (s1.toNat : Int), .int .u32 (s2.toNat : Int), .int .u32 (s3.toNat : Int), .int .u32 (s4.toNat : Int), .int .u32 (s5.toNat : Int), .int .u32 (s6.toNat : Int), .int .u32 (s7.toNat : Int), .slice R m c, .int .u64 (n : Int)] 199 (0, 0)) := hh.2
      have hb1 : ¬ b = g1 := by have := G1.out; omega
      have hr2 := hK.heap hh2 hb1
      have x0 := cell_at hr2 (i := 0) (v := .int .u32 (s0.toNat : Int)) rfl
      have x1 := cell_at hr2 (i := 1) (v := .int .u32 (s1.toNat : Int)) rfl
      have x2 := cell_at hr2 (i := 2) (v := .int .u32 (s2.toNat : Int)) rfl
      have x3 := cell_at hr2 (i := 3) (v := .int .u32 (s3.toNat : Int)) rfl
      have x4 := cell_at hr2 (i := 4) (v := .int .u32 (s4.toNat : Int)) rfl
      have x5 := cell_at hr2 (i := 5) (v := .int .u32 (s5.toNat : Int)) rfl
      have x6 := cell_at hr2 (i := 6) (v := .int .u32 (s6.toNat : Int)) rfl
      have x7 := cell_at hr2 (i := 7) (v := .int .u32 (s7.toNat : Int)) rfl
      obtain ⟨tT, frT, hT0⟩ := (hT.keeps hK (by have := hT.pos; have := G1.out; omega)).below (below_alloc (Below.refl _ wr) (.cells #[.int .u32 (s0.toNat : Int), .int .u32 (s1.toNat : Int), .int .u32 (s2.toNat : Int), .int .u32 (s3.toNat : Int), .int .u32 (s4.toNat : Int), .int .u32 (s5.toNat : Int), .int .u32 (s6.toNat : Int), .int .u32 (s7.toNat : Int)] 197))
      have hBW : Below w.heap.size w wr := ⟨hK.os, hK.tape, hK.output, hK.size, fun j hj => hK.block j hj (by have := G1.out; omega)⟩
      have R2 := heap_alloc_new wr (.cells #[.int .u32 (s0.toNat : Int), .int .u32 (s1.toNat : Int), .int .u32 (s2.toNat : Int), .int .u32 (s3.toNat : Int), .int .u32 (s4.toNat : Int), .int .u32 (s5.toNat : Int), .int .u32 (s6.toNat : Int), .int .u32 (s7.toNat : Int)] 197)
      have R2' : WordsAt (wr.alloc (.cells #[.int .u32 (s0.toNat : Int), .int .u32 (s1.toNat : Int), .int .u32 (s2.toNat : Int), .int .u32 (s3.toNat : Int), .int .u32 (s4.toNat : Int), .int .u32 (s5.toNat : Int), .int .u32 (s6.toNat : Int), .int .u32 (s7.toNat : Int)] 197)) wr.heap.size (rounds m16 0 [s0, s1, s2, s3, s4, s5, s6, s7]) 197 := R2
      have R1' := hR.below (below_alloc (Below.refl _ wr) (.cells #[.int .u32 (s0.toNat : Int), .int .u32 (s1.toNat : Int), .int .u32 (s2.toNat : Int), .int .u32 (s3.toNat : Int), .int .u32 (s4.toNat : Int), .int .u32 (s5.toNat : Int), .int .u32 (s6.toNat : Int), .int .u32 (s7.toNat : Int)] 197))
      have hBW' := below_alloc hBW (.cells #[.int .u32 (s0.toNat : Int), .int .u32 (s1.toNat : Int), .int .u32 (s2.toNat : Int), .int .u32 (s3.toNat : Int), .int .u32 (s4.toNat : Int), .int .u32 (s5.toNat : Int), .int .u32 (s6.toNat : Int), .int .u32 (s7.toNat : Int)] 197)
      have RA : RingAt (W m16) 0 m16 := RingAt.start _ _ l16 (fun t ht => W_low l16 ht)
      have g12 : ¬ wr.heap.size = g1 := by have := lt_of_block hR; omega
      have g2w : w.heap.size ≤ wr.heap.size := hBW.size
      have g1w : w.heap.size ≤ g1 := by have := G1.out; omega
      have L8 : ([s0, s1, s2, s3, s4, s5, s6, s7] : List UInt32).length = 8 := rfl
      have HW := hid (fun i h h' => W_next (m := m16) l16 (i := i) h h')
      have HH := hid hh
      clear hm16 hpb pw hh hr2 hK hT R2 hBW hR
      go_wp2_with (refine wpList_load_row rfl 184 (.global 1) rfl 1 rfl tT (u32s roundK) frT _ hT0 Tryz.underlying184 rfl (by kernel_rfl) ?_)
      generalize wr.alloc (.cells #[.int .u32 (s0.toNat : Int), .int .u32 (s1.toNat : Int), .int .u32 (s2.toNat : Int), .int .u32 (s3.toNat : Int), .int .u32 (s4.toNat : Int), .int .u32 (s5.toNat : Int), .int .u32 (s6.toNat : Int), .int .u32 (s7.toNat : Int)] 197) = W2 at *
      generalize wr.heap.size = g2 at *
      clear x0 x1 x2 x3 x4 x5 x6 x7 hT0
      go_loopw [37] (fun i wx => ∃ k : Nat, k ≤ 64 ∧ i = .int .i64 k ∧ (∃ r, WordsAt wx g1 r 266 ∧ RingAt (W m16) k r) ∧ WordsAt wx g2 (rounds m16 k [s0, s1, s2, s3, s4, s5, s6, s7]) 197 ∧ Below w.heap.size w wx) (fun i _ => 64 - (intOf i).toNat)
      case atStart => exact ⟨0, Nat.zero_le _, rfl, ⟨m16, R1', RA⟩, R2', hBW'⟩
      case round =>
        clear R1' RA R2' hBW'
        obtain ⟨k, hk, rfl, ⟨r, hR, hRA⟩, hS, hB⟩ := hrel
        by_cases hlt : k < 64
        · obtain ⟨a, b', c₂, d, e, f, g, h, hst⟩ := eight (rounds_length m16 L8 k)
          have hnx := hid (show rounds m16 (k + 1) [s0, s1, s2, s3, s4, s5, s6, s7] = step (roundK.getD k 0) (W m16 k) [a, b', c₂, d, e, f, g, h] by rw [← hst]; rfl)
          rw [hst] at hS
          have i0 : ∀ w : World, (Instr.index 184 (.agg (u32s roundK)) (.int .i64 (k : Int))).run Tryz.prog w = .ok (.int .u32 ((roundK.getD k 0).toNat : Int)) w := fun w => index64 roundK rfl k hlt
          obtain ⟨kk, hkk⟩ : ∃ kk, kk = roundK.getD k 0 := ⟨_, rfl⟩
          rw [← hkk] at i0 hnx
          have y0 := hS.cell 0 (by simp)
          have y1 := hS.cell 1 (by simp)
          have y2 := hS.cell 2 (by simp)
          have y3 := hS.cell 3 (by simp)
          have y4 := hS.cell 4 (by simp)
          have y5 := hS.cell 5 (by simp)
          have y6 := hS.cell 6 (by simp)
          have y7 := hS.cell 7 (by simp)
          simp only [List.getD_cons_zero, List.getD_cons_succ] at y0 y1 y2 y3 y4 y5 y6 y7
          have C1 : ∀ w : World, Calls Tryz.prog 161 #[.int .u32 (e.toNat : Int), .int .i64 (-25)] w fun e' w' => e' = .returned (.int .u32 ((rotr e 25).toNat : Int)) ∧ w = w' := fun w => rotl_any (n := 25) (by omega) (by omega)
          have C2 : ∀ w : World, Calls Tryz.prog 160 #[.int .u32 (e.toNat : Int), .int .i64 6, .int .i64 11, .int .u32 ((rotr e 25).toNat : Int)] w fun e' w' => e' = .returned (.int .u32 ((wXor (wXor (rotr e 6) (rotr e 11)) (rotr e 25)).toNat : Int)) ∧ w = w' := fun w => spread_any (a := 6) (b := 11) ⟨by omega, by omega⟩ ⟨by omega, by omega⟩
          have C3 := hid (word_any (w := wr.drew) (i := k) hlt hR hRA HW.out)
          have X1 := word_xor f g
          have X2 := word_and e (wXor f g)
          have X3 := word_xor g (wAnd e (wXor f g))
          rw [choice_eq] at X3
          obtain ⟨SS, hSS⟩ : ∃ x, x = wXor (wXor (rotr e 6) (rotr e 11)) (rotr e 25) := ⟨_, rfl⟩
          obtain ⟨CC, hCC⟩ : ∃ x, x = choice e f g := ⟨_, rfl⟩
          obtain ⟨WK, hWK⟩ : ∃ x, x = W m16 k := ⟨_, rfl⟩
          have hT : roundT kk WK e f g h = wAdd (wAdd (wAdd (wAdd h SS) CC) kk) WK := by rw [hSS, hCC]; rfl
          rw [← hSS] at C2
          rw [← hCC] at X3
          rw [← hWK] at C3 hnx
          have A1 := word_addW h SS
          have A2 := word_addW (wAdd h SS) CC
          have A3 := word_addW (wAdd (wAdd h SS) CC) kk
          have A4 := word_addW (wAdd (wAdd (wAdd h SS) CC) kk) WK
          rw [← hT] at A4
          clear hst hkk hSS hCC hWK hT
          go_wp2
          refine start_ (n := 27) (S := fun w' => w'.cell? ⟨g2, 4, none⟩ = some (.int .u32 (e.toNat : Int)) ∧ w'.cell? ⟨g2, 5, none⟩ = some (.int .u32 (f.toNat : Int)) ∧ w'.cell? ⟨g2, 6, none⟩ = some (.int .u32 (g.toNat : Int)) ∧ w'.cell? ⟨g2, 7, none⟩ = some (.int .u32 (h.toNat : Int))) (ds := []) (tf 27 0) (by kernel_rfl) rfl rfl ⟨y4, y5, y6, y7⟩ (fun hHeld => ?_); refine pure_ (i := 0) (N := some 41) (v := ?_) (a' := ?_) (tf 27 1) rfl rfl (by kernel_rfl) (fun _ _ _ h => h) (Or.inl ⟨by rfl, ?_⟩) ?_ ?_; rotate_left; (· intro w'; go_simp; (with_reducible rfl)); rotate_left; (· simp only [pn_]; rfl); refine pure_ (i := 2) (N := some 43) (v := ?_) (a' := ?_) (tf 27 5) rfl rfl (by kernel_rfl) (fun _ _ _ h => h) (Or.inl ⟨by rfl, ?_⟩) ?_ ?_; rotate_left; (· intro w'; go_simp; (with_reducible rfl)); rotate_left; (· simp only [pn_]; rfl); refine pure_ (i := 4) (N := some 45) (v := ?_) (a' := ?_) (tf 27 21) rfl rfl (by kernel_rfl) (fun _ _ _ h => h) (Or.inl ⟨by rfl, ?_⟩) ?_ ?_; rotate_left; (· intro w'; go_simp; (with_reducible rfl)); rotate_left; (· simp only [pn_]; rfl); refine pure_ (i := 9) (N := some 50) (v := ?_) (a' := ?_) (tf 27 533) rfl rfl (by kernel_rfl) (fun _ _ _ h => h) (Or.inl ⟨by rfl, ?_⟩) ?_ ?_; rotate_left; (· intro w'; go_simp; (with_reducible rfl)); rotate_left; (· simp only [pn_]; rfl); refine pure_ (i := 11) (N := some 52) (v := ?_) (a' := ?_) (tf 27 2581) rfl rfl (by kernel_rfl) (fun _ _ _ h => h) (Or.inl ⟨by rfl, ?_⟩) ?_ ?_; rotate_left; (· intro w'; go_simp; (with_reducible rfl)); rotate_left; (· simp only [pn_]; rfl); refine pure_ (i := 13) (N := some 54) (v := ?_) (a' := ?_) (tf 27 10773) rfl rfl (by kernel_rfl) (fun _ _ _ h => h) (Or.inl ⟨by rfl, ?_⟩) ?_ ?_; rotate_left; (· intro w'; go_simp; (with_reducible rfl)); rotate_left; (· simp only [pn_]; rfl); refine pure_ (i := 15) (N := some 56) (v := ?_) (a' := ?_) (tf 27 43541) rfl rfl (by kernel_rfl) (fun _ _ _ h => h) (Or.inl ⟨by rfl, ?_⟩) ?_ ?_; rotate_left; (· intro w'; go_simp; (with_reducible rfl)); rotate_left; (· simp only [pn_]; rfl); refine pure_ (i := 21) (N := some 62) (v := ?_) (a' := ?_) (tf 27 2140693) rfl rfl (by kernel_rfl) (fun _ _ _ h => h) (Or.inl ⟨by rfl, ?_⟩) ?_ ?_; rotate_left; (· intro w'; go_simp; (with_reducible rfl)); rotate_left; (· simp only [pn_]; rfl); refine pure_ (i := 23) (N := some 64) (v := ?_) (a' := ?_) (tf 27 10529301) rfl rfl (by kernel_rfl) (fun _ _ _ h => h) (Or.inl ⟨by rfl, ?_⟩) ?_ ?_; rotate_left; (· intro w'; go_simp; (with_reducible rfl)); rotate_left; (· simp only [pn_]; rfl); refine take_ (i := 1) (N := some 42) (v := ?_) (a' := ?_) (tf 27 10529303) rfl rfl (by kernel_rfl) (fun _ _ _ h => h) (Or.inl ⟨by rfl, ?_⟩) hHeld ?_ ?_; rotate_left; (· rintro w' ⟨s0, s1, s2, s3⟩; go_simp; (with_reducible rfl)); rotate_left; (· simp only [pn_]; rfl); refine take_ (i := 3) (N := some 44) (v := ?_) (a' := ?_) (tf 27 10529311) rfl rfl (by kernel_rfl) (fun _ _ _ h => h) (Or.inl ⟨by rfl, ?_⟩) hHeld ?_ ?_; rotate_left; (· rintro w' ⟨s0, s1, s2, s3⟩; go_simp; (with_reducible rfl)); rotate_left; (· simp only [pn_]; rfl); refine take_ (i := 5) (N := some 46) (v := ?_) (a' := ?_) (tf 27 10529343) rfl rfl (by kernel_rfl) (fun _ _ _ h => h) (Or.inl ⟨by rfl, ?_⟩) hHeld ?_ ?_; rotate_left; (· rintro w' ⟨s0, s1, s2, s3⟩; go_simp; (with_reducible rfl)); rotate_left; (· simp only [pn_]; rfl); refine take_ (i := 10) (N := some 51) (v := ?_) (a' := ?_) (tf 27 10530367) rfl rfl (by kernel_rfl) (fun _ _ _ h => h) (Or.inl ⟨by rfl, ?_⟩) hHeld ?_ ?_; rotate_left; (· rintro w' ⟨s0, s1, s2, s3⟩; go_simp; (with_reducible rfl)); rotate_left; (· simp only [pn_]; rfl); refine take_ (i := 12) (N := some 53) (v := ?_) (a' := ?_) (tf 27 10534463) rfl rfl (by kernel_rfl) (fun _ _ _ h => h) (Or.inl ⟨by rfl, ?_⟩) hHeld ?_ ?_; rotate_left; (· rintro w' ⟨s0, s1, s2, s3⟩; go_simp; (with_reducible rfl)); rotate_left; (· simp only [pn_]; rfl); refine take_ (i := 14) (N := some 55) (v := ?_) (a' := ?_) (tf 27 10550847) rfl rfl (by kernel_rfl) (fun _ _ _ h => h) (Or.inl ⟨by rfl, ?_⟩) hHeld ?_ ?_; rotate_left; (· rintro w' ⟨s0, s1, s2, s3⟩; go_simp; (with_reducible rfl)); rotate_left; (· simp only [pn_]; rfl); refine take_ (i := 16) (N := some 57) (v := ?_) (a' := ?_) (tf 27 10616383) rfl rfl (by kernel_rfl) (fun _ _ _ h => h) (Or.inl ⟨by rfl, ?_⟩) hHeld ?_ ?_; rotate_left; (· rintro w' ⟨s0, s1, s2, s3⟩; go_simp; (with_reducible rfl)); rotate_left; (· simp only [pn_]; rfl); refine pure_ (i := 17) (N := some 58) (v := ?_) (a' := ?_) (tf 27 10747455) rfl rfl (by kernel_rfl) (fun _ _ _ h => h) (Or.inl ⟨by rfl, ?_⟩) ?_ ?_; rotate_left; (· intro w'; go_simp; (with_reducible rfl)); rotate_left; (· simp only [pn_]; rfl); refine pure_ (i := 18) (N := some 59) (v := ?_) (a' := ?_) (tf 27 11009599) rfl rfl (by kernel_rfl) (fun _ _ _ h => h) (Or.inl ⟨by rfl, ?_⟩) ?_ ?_; rotate_left; (· intro w'; go_simp; (with_reducible rfl)); rotate_left; (· simp only [pn_]; rfl); refine pure_ (i := 19) (N := some 60) (v := ?_) (a' := ?_) (tf 27 11533887) rfl rfl (by kernel_rfl) (fun _ _ _ h => h) (Or.inl ⟨by rfl, ?_⟩) ?_ ?_; rotate_left; (· intro w'; go_simp; (with_reducible rfl)); rotate_left; (· simp only [pn_]; rfl); refine one_ (i := 6) (N := some 47) (tf 27 11533951) rfl rfl (by kernel_rfl) (by decide) (fun K hK => ?_); refine goes_ Tryz.func161 (by kernel_rfl) rfl #[.int .u32 (e.toNat : Int), .int .i64 (-25)] (by rfl) rfl rfl (by simp only [List.map_toArray, List.map_cons, List.map_nil]; rfl) ?_; (with_reducible refine ((C1 _)).mono ?_); rintro e' w5 ⟨rfl, rfl⟩; refine ⟨_, rfl, ?_⟩; refine hK.out _ _ ⟨y4, y5, y6, y7⟩ (fun hHeld => ?_); clear hK K; refine norm_ (a' := ?_) ?_ ?_; rotate_left; (· show Act.put _ (some 47) _ = _; simp only [pn_]; rfl); refine one_ (i := 7) (N := some 48) (tf 27 11534079) rfl rfl (by kernel_rfl) (by decide) (fun K hK => ?_); refine goes_ Tryz.func160 (by kernel_rfl) rfl #[.int .u32 (e.toNat : Int), .int .i64 6, .int .i64 11, .int .u32 ((rotr e 25).toNat : Int)] (by rfl) rfl rfl (by simp only [List.map_toArray, List.map_cons, List.map_nil]; rfl) ?_; (with_reducible refine ((C2 _)).mono ?_); rintro e' w5 ⟨rfl, rfl⟩; refine ⟨_, rfl, ?_⟩; refine hK.out _ _ ⟨y4, y5, y6, y7⟩ (fun hHeld => ?_); clear hK K; refine norm_ (a' := ?_) ?_ ?_; rotate_left; (· show Act.put _ (some 48) _ = _; simp only [pn_]; rfl); refine pure_ (i := 8) (N := some 49) (v := ?_) (a' := ?_) (tf 27 11534335) rfl rfl (by kernel_rfl) (fun _ _ _ h => h) (Or.inl ⟨by rfl, ?_⟩) ?_ ?_; rotate_left; (· intro w'; go_simp; (with_reducible rfl)); rotate_left; (· simp only [pn_]; rfl); refine pure_ (i := 20) (N := some 61) (v := ?_) (a' := ?_) (tf 27 12582911) rfl rfl (by kernel_rfl) (fun _ _ _ h => h) (Or.inl ⟨by rfl, ?_⟩) ?_ ?_; rotate_left; (· intro w'; go_simp; (with_reducible rfl)); rotate_left; (· simp only [pn_]; rfl); refine pure_ (i := 22) (N := some 63) (v := ?_) (a' := ?_) (tf 27 16777215) rfl rfl (by kernel_rfl) (fun _ _ _ h => h) (Or.inl ⟨by rfl, ?_⟩) ?_ ?_; rotate_left; (· intro w'; go_simp; (with_reducible rfl)); rotate_left; (· simp only [pn_]; rfl); refine one_ (i := 24) (N := some 65) (tf 27 33554431) rfl rfl (by kernel_rfl) (by decide) (fun K hK => ?_); refine goes_ Tryz.func162 (by kernel_rfl) rfl #[.pointer (some ⟨g1, 0, none⟩), .int .i64 (k : Int)] (by rfl) rfl rfl (by simp only [List.map_toArray, List.map_cons, List.map_nil]; rfl) ?_; (with_reducible refine (C3.out).mono ?_); rintro e' w5 ⟨rfl, hR5, hK5⟩; refine ⟨_, rfl, ?_⟩; refine hK.out _ _ ⟨hK5.cell y4 g12, hK5.cell y5 g12, hK5.cell y6 g12, hK5.cell y7 g12⟩ (fun hHeld => ?_); clear hK K; refine norm_ (a' := ?_) ?_ ?_; rotate_left; (· show Act.put _ (some 65) _ = _; simp only [pn_]; rfl); refine pure_ (i := 25) (N := some 66) (v := ?_) (a' := ?_) (tf 27 67108863) rfl rfl (by kernel_rfl) (fun _ _ _ h => h) (Or.inl ⟨by rfl, ?_⟩) ?_ ?_; rotate_left; (· intro w'; go_simp; (with_reducible rfl)); rotate_left; (· simp only [pn_]; rfl); refine pure_ (i := 26) (N := some 10) (v := ?_) (a' := ?_) (tf 27 134217727) rfl rfl (by kernel_rfl) (fun _ _ _ h => h) (Or.inl ⟨by rfl, ?_⟩) ?_ ?_; rotate_left; (· intro w'; go_simp; (with_reducible rfl)); rotate_left; (· simp only [pn_]; rfl); refine done_ (by kernel_rfl) ?_
          have hS5 : WordsAt w5 g2 [a, b', c₂, d, e, f, g, h] 197 := WordsAt.keeps (w := wr.drew) hS hK5 g12
          have hB5 : Below w.heap.size w w5 := ⟨hK5.os.trans hB.os, hK5.tape.trans hB.tape, hK5.output.trans hB.output, Nat.le_trans hB.size hK5.size, fun j hj => (hK5.block j (Nat.lt_of_lt_of_le hj hB.size) (by omega)).trans (hB.block j hj)⟩
          have z0 := hS5.cell 0 (by simp)
          have z1 := hS5.cell 1 (by simp)
          have z2 := hS5.cell 2 (by simp)
          have z3 := hS5.cell 3 (by simp)
          have z4 := hS5.cell 4 (by simp)
          have z5 := hS5.cell 5 (by simp)
          have z6 := hS5.cell 6 (by simp)
          simp only [List.getD_cons_zero, List.getD_cons_succ] at z0 z1 z2 z3 z4 z5 z6
          have D1 : ∀ w : World, Calls Tryz.prog 161 #[.int .u32 (a.toNat : Int), .int .i64 (-22)] w fun e' w' => e' = .returned (.int .u32 ((rotr a 22).toNat : Int)) ∧ w = w' := fun w => rotl_any (n := 22) (by omega) (by omega)
          have D2 : ∀ w : World, Calls Tryz.prog 160 #[.int .u32 (a.toNat : Int), .int .i64 2, .int .i64 13, .int .u32 ((rotr a 22).toNat : Int)] w fun e' w' => e' = .returned (.int .u32 ((wXor (wXor (rotr a 2) (rotr a 13)) (rotr a 22)).toNat : Int)) ∧ w = w' := fun w => spread_any (a := 2) (b := 13) ⟨by omega, by omega⟩ ⟨by omega, by omega⟩
          have E1 := word_and a b'
          have E2 := word_or a b'
          have E3 := word_and c₂ (wOr a b')
          have E4 := word_or (wAnd a b') (wAnd c₂ (wOr a b'))
          rw [most_eq] at E4
          have E5 := word_addW (wXor (wXor (rotr a 2) (rotr a 13)) (rotr a 22)) (most a b' c₂)
          have hU : wAdd (wXor (wXor (rotr a 2) (rotr a 13)) (rotr a 22)) (most a b' c₂) = roundU a b' c₂ := rfl
          rw [hU] at E5
          have E6 := word_add (roundT kk WK e f g h) (roundU a b' c₂)
          have E7 := word_add d (roundT kk WK e f g h)
          clear y0 y1 y2 y3 y4 y5 y6 y7 C1 C2 C3 X1 X2 X3 A1 A2 A3 A4 hS hK5 hB hU i0 hR
          go_wp2
          refine start_ (n := 22) (S := fun w' => w'.cell? ⟨g2, 0, none⟩ = some (.int .u32 (a.toNat : Int)) ∧ w'.cell? ⟨g2, 1, none⟩ = some (.int .u32 (b'.toNat : Int)) ∧ w'.cell? ⟨g2, 2, none⟩ = some (.int .u32 (c₂.toNat : Int))) (ds := []) (tf 22 0) (by kernel_rfl) rfl rfl ⟨z0, z1, z2⟩ (fun hHeld => ?_); refine pure_ (i := 0) (N := some 67) (v := ?_) (a' := ?_) (tf 22 1) rfl rfl (by kernel_rfl) (fun _ _ _ h => h) (Or.inl ⟨by rfl, ?_⟩) ?_ ?_; rotate_left; (· intro w'; go_simp; (with_reducible rfl)); rotate_left; (· simp only [pn_]; rfl); refine pure_ (i := 2) (N := some 69) (v := ?_) (a' := ?_) (tf 22 5) rfl rfl (by kernel_rfl) (fun _ _ _ h => h) (Or.inl ⟨by rfl, ?_⟩) ?_ ?_; rotate_left; (· intro w'; go_simp; (with_reducible rfl)); rotate_left; (· simp only [pn_]; rfl); refine pure_ (i := 6) (N := some 73) (v := ?_) (a' := ?_) (tf 22 69) rfl rfl (by kernel_rfl) (fun _ _ _ h => h) (Or.inl ⟨by rfl, ?_⟩) ?_ ?_; rotate_left; (· intro w'; go_simp; (with_reducible rfl)); rotate_left; (· simp only [pn_]; rfl); refine pure_ (i := 8) (N := some 75) (v := ?_) (a' := ?_) (tf 22 325) rfl rfl (by kernel_rfl) (fun _ _ _ h => h) (Or.inl ⟨by rfl, ?_⟩) ?_ ?_; rotate_left; (· intro w'; go_simp; (with_reducible rfl)); rotate_left; (· simp only [pn_]; rfl); refine pure_ (i := 11) (N := some 78) (v := ?_) (a' := ?_) (tf 22 2373) rfl rfl (by kernel_rfl) (fun _ _ _ h => h) (Or.inl ⟨by rfl, ?_⟩) ?_ ?_; rotate_left; (· intro w'; go_simp; (with_reducible rfl)); rotate_left; (· simp only [pn_]; rfl); refine pure_ (i := 13) (N := some 80) (v := ?_) (a' := ?_) (tf 22 10565) rfl rfl (by kernel_rfl) (fun _ _ _ h => h) (Or.inl ⟨by rfl, ?_⟩) ?_ ?_; rotate_left; (· intro w'; go_simp; (with_reducible rfl)); rotate_left; (· simp only [pn_]; rfl); refine pure_ (i := 15) (N := some 82) (v := ?_) (a' := ?_) (tf 22 43333) rfl rfl (by kernel_rfl) (fun _ _ _ h => h) (Or.inl ⟨by rfl, ?_⟩) ?_ ?_; rotate_left; (· intro w'; go_simp; (with_reducible rfl)); rotate_left; (· simp only [pn_]; rfl); refine take_ (i := 1) (N := some 68) (v := ?_) (a' := ?_) (tf 22 43335) rfl rfl (by kernel_rfl) (fun _ _ _ h => h) (Or.inl ⟨by rfl, ?_⟩) hHeld ?_ ?_; rotate_left; (· rintro w' ⟨s0, s1, s2⟩; go_simp; (with_reducible rfl)); rotate_left; (· simp only [pn_]; rfl); refine take_ (i := 3) (N := some 70) (v := ?_) (a' := ?_) (tf 22 43343) rfl rfl (by kernel_rfl) (fun _ _ _ h => h) (Or.inl ⟨by rfl, ?_⟩) hHeld ?_ ?_; rotate_left; (· rintro w' ⟨s0, s1, s2⟩; go_simp; (with_reducible rfl)); rotate_left; (· simp only [pn_]; rfl); refine take_ (i := 7) (N := some 74) (v := ?_) (a' := ?_) (tf 22 43471) rfl rfl (by kernel_rfl) (fun _ _ _ h => h) (Or.inl ⟨by rfl, ?_⟩) hHeld ?_ ?_; rotate_left; (· rintro w' ⟨s0, s1, s2⟩; go_simp; (with_reducible rfl)); rotate_left; (· simp only [pn_]; rfl); refine take_ (i := 9) (N := some 76) (v := ?_) (a' := ?_) (tf 22 43983) rfl rfl (by kernel_rfl) (fun _ _ _ h => h) (Or.inl ⟨by rfl, ?_⟩) hHeld ?_ ?_; rotate_left; (· rintro w' ⟨s0, s1, s2⟩; go_simp; (with_reducible rfl)); rotate_left; (· simp only [pn_]; rfl); refine pure_ (i := 10) (N := some 77) (v := ?_) (a' := ?_) (tf 22 45007) rfl rfl (by kernel_rfl) (fun _ _ _ h => h) (Or.inl ⟨by rfl, ?_⟩) ?_ ?_; rotate_left; (· intro w'; go_simp; (with_reducible rfl)); rotate_left; (· simp only [pn_]; rfl); refine take_ (i := 12) (N := some 79) (v := ?_) (a' := ?_) (tf 22 49103) rfl rfl (by kernel_rfl) (fun _ _ _ h => h) (Or.inl ⟨by rfl, ?_⟩) hHeld ?_ ?_; rotate_left; (· rintro w' ⟨s0, s1, s2⟩; go_simp; (with_reducible rfl)); rotate_left; (· simp only [pn_]; rfl); refine take_ (i := 14) (N := some 81) (v := ?_) (a' := ?_) (tf 22 65487) rfl rfl (by kernel_rfl) (fun _ _ _ h => h) (Or.inl ⟨by rfl, ?_⟩) hHeld ?_ ?_; rotate_left; (· rintro w' ⟨s0, s1, s2⟩; go_simp; (with_reducible rfl)); rotate_left; (· simp only [pn_]; rfl); refine take_ (i := 16) (N := some 83) (v := ?_) (a' := ?_) (tf 22 131023) rfl rfl (by kernel_rfl) (fun _ _ _ h => h) (Or.inl ⟨by rfl, ?_⟩) hHeld ?_ ?_; rotate_left; (· rintro w' ⟨s0, s1, s2⟩; go_simp; (with_reducible rfl)); rotate_left; (· simp only [pn_]; rfl); refine pure_ (i := 17) (N := some 84) (v := ?_) (a' := ?_) (tf 22 262095) rfl rfl (by kernel_rfl) (fun _ _ _ h => h) (Or.inl ⟨by rfl, ?_⟩) ?_ ?_; rotate_left; (· intro w'; go_simp; (with_reducible rfl)); rotate_left; (· simp only [pn_]; rfl); refine pure_ (i := 18) (N := some 85) (v := ?_) (a' := ?_) (tf 22 524239) rfl rfl (by kernel_rfl) (fun _ _ _ h => h) (Or.inl ⟨by rfl, ?_⟩) ?_ ?_; rotate_left; (· intro w'; go_simp; (with_reducible rfl)); rotate_left; (· simp only [pn_]; rfl); refine pure_ (i := 19) (N := some 86) (v := ?_) (a' := ?_) (tf 22 1048527) rfl rfl (by kernel_rfl) (fun _ _ _ h => h) (Or.inl ⟨by rfl, ?_⟩) ?_ ?_; rotate_left; (· intro w'; go_simp; (with_reducible rfl)); rotate_left; (· simp only [pn_]; rfl); refine one_ (i := 4) (N := some 71) (tf 22 1048543) rfl rfl (by kernel_rfl) (by decide) (fun K hK => ?_); refine goes_ Tryz.func161 (by kernel_rfl) rfl #[.int .u32 (a.toNat : Int), .int .i64 (-22)] (by rfl) rfl rfl (by simp only [List.map_toArray, List.map_cons, List.map_nil]; rfl) ?_; (with_reducible refine ((D1 _)).mono ?_); rintro e' w6 ⟨rfl, rfl⟩; refine ⟨_, rfl, ?_⟩; refine hK.out _ _ ⟨z0, z1, z2⟩ (fun hHeld => ?_); clear hK K; refine norm_ (a' := ?_) ?_ ?_; rotate_left; (· show Act.put _ (some 71) _ = _; simp only [pn_]; rfl); refine one_ (i := 5) (N := some 72) (tf 22 1048575) rfl rfl (by kernel_rfl) (by decide) (fun K hK => ?_); refine goes_ Tryz.func160 (by kernel_rfl) rfl #[.int .u32 (a.toNat : Int), .int .i64 2, .int .i64 13, .int .u32 ((rotr a 22).toNat : Int)] (by rfl) rfl rfl (by simp only [List.map_toArray, List.map_cons, List.map_nil]; rfl) ?_; (with_reducible refine ((D2 _)).mono ?_); rintro e' w6 ⟨rfl, rfl⟩; refine ⟨_, rfl, ?_⟩; refine hK.out _ _ ⟨z0, z1, z2⟩ (fun hHeld => ?_); clear hK K; refine norm_ (a' := ?_) ?_ ?_; rotate_left; (· show Act.put _ (some 72) _ = _; simp only [pn_]; rfl); refine pure_ (i := 20) (N := some 87) (v := ?_) (a' := ?_) (tf 22 2097151) rfl rfl (by kernel_rfl) (fun _ _ _ h => h) (Or.inl ⟨by rfl, ?_⟩) ?_ ?_; rotate_left; (· intro w'; go_simp; (with_reducible rfl)); rotate_left; (· simp only [pn_]; rfl); refine pure_ (i := 21) (N := some 11) (v := ?_) (a' := ?_) (tf 22 4194303) rfl rfl (by kernel_rfl) (fun _ _ _ h => h) (Or.inl ⟨by rfl, ?_⟩) ?_ ?_; rotate_left; (· intro w'; go_simp; (with_reducible rfl)); rotate_left; (· simp only [pn_]; rfl); refine done_ (by kernel_rfl) ?_
          clear D1 D2 E1 E2 E3 E4 E5
          go_wp2_with (refine wpList_store_row rfl 197 (.tmp 7) (.tmp 107) rfl g2 (u32s [wAdd (roundT kk WK e f g h) (roundU a b' c₂), a, b', c₂, wAdd d (roundT kk WK e f g h), e, f, g]) rfl rfl 197 (u32s [a, b', c₂, d, e, f, g, h]) hS5 (by kernel_rfl) rfl (u32s_one _) ?_)
          have hr7 : WordsAt (w5.drew.setRow g2 (u32s [wAdd (roundT kk WK e f g h) (roundU a b' c₂), a, b', c₂, wAdd d (roundT kk WK e f g h), e, f, g])) g1 (ringNext (W m16) k r) 266 := WordsAt.keeps (w := w5.drew) hR5 (Keeps.row1 _ _ _) (fun e => g12 e.symm)
          have hs7 : WordsAt (w5.drew.setRow g2 (u32s [wAdd (roundT kk WK e f g h) (roundU a b' c₂), a, b', c₂, wAdd d (roundT kk WK e f g h), e, f, g])) g2 (rounds m16 (k + 1) [s0, s1, s2, s3, s4, s5, s6, s7]) 197 := by
            rw [hnx.out]
            exact WordsAt.row (w := w5.drew) hS5
          have hk7 := Keeps.row1 w5.drew g2 (u32s [wAdd (roundT kk WK e f g h) (roundU a b' c₂), a, b', c₂, wAdd d (roundT kk WK e f g h), e, f, g])
          have hb7 : Below w.heap.size w (w5.drew.setRow g2 (u32s [wAdd (roundT kk WK e f g h) (roundU a b' c₂), a, b', c₂, wAdd d (roundT kk WK e f g h), e, f, g])) := ⟨hB5.os, hB5.tape, hB5.output, Nat.le_trans hB5.size hk7.size, fun j hj => (hk7.block j (Nat.lt_of_lt_of_le hj hB5.size) (by omega)).trans (hB5.block j hj)⟩
          exact ⟨⟨k + 1, by omega, by go_num, ⟨_, hr7, hRA.next⟩, hs7, hb7⟩, by simp [intOf]; omega⟩
        · have hk64 : k = 64 := by omega
          subst hk64
          have hH := (HH.out.below hB)
          have lF := rounds_length m16 L8 64
          obtain ⟨FF, hFF⟩ : ∃ f, f = rounds m16 64 [s0, s1, s2, s3, s4, s5, s6, s7] := ⟨_, rfl⟩
          rw [← hFF] at hS lF
          have HF := hid hFF
          obtain ⟨SS, hSS⟩ : ∃ s, s = [s0, s1, s2, s3, s4, s5, s6, s7] := ⟨_, rfl⟩
          rw [← hSS] at hH L8
          have HS := hid hSS
          have hb2 : ¬ g2 = b := by omega
          have hH0 : HashAt wr b (added SS FF 0) R m c n := by simpa [added] using hH
          have hK0 : Keeps (fun j => j = b) w wr := Keeps.of_below hB
          clear hFF hSS hR hRA HW HH hH hB hlt hk
          go_wp2
          go_loopw [109] (fun i wx => ∃ k : Nat, k ≤ 8 ∧ i = .int .i64 k ∧ HashAt wx b (added SS FF k) R m c n ∧ WordsAt wx g2 FF 197 ∧ Keeps (fun j => j = b) w wx) (fun i _ => 8 - (intOf i).toNat)
          case atStart => exact ⟨0, Nat.zero_le _, rfl, hH0, hS, hK0⟩
          case round =>
            clear hH0 hS hK0
            obtain ⟨k, hk, rfl, hH, hS, hK⟩ := hrel
            by_cases hlt : k < 8
            · have c1 := hH.cell k hlt
              rw [added_get L8 lF hlt] at c1
              have c2 := hS.cell k (by omega)
              have f1 := hH.free k
              have hN := hH.set k hlt (wAdd (SS.getD k 0) (FF.getD k 0))
              rw [added_next L8 lF hlt] at hN
              obtain ⟨xx, hxx⟩ : ∃ x, x = SS.getD k 0 := ⟨_, rfl⟩
              obtain ⟨yy, hyy⟩ : ∃ x, x = FF.getD k 0 := ⟨_, rfl⟩
              rw [← hxx] at c1 hN
              rw [← hyy] at c2 hN
              have A1 := word_addW xx yy
              have q8 : ((k : Int) < 8) = True := by simp; omega
              have HN := hid hN
              have HK := hid (hK.then (Keeps.set1 wr b k (.int .u32 ((wAdd xx yy).toNat : Int))) (fun _ _ e => e))
              have HS2 := hid (hS.keeps (Keeps.set1 wr b k (.int .u32 ((wAdd xx yy).toNat : Int))) hb2)
              clear hxx hyy hH hS hN hK
              go_wp2
              refine start_ (n := 14) (S := fun w' => w'.cell? ⟨b, k, none⟩ = some (.int .u32 (xx.toNat : Int)) ∧ w'.cell? ⟨g2, k, none⟩ = some (.int .u32 (yy.toNat : Int)) ∧ w'.frozen? ⟨b, k, none⟩ = false) (ds := [13]) (tf 14 0) (by kernel_rfl) rfl rfl ⟨c1, c2, f1⟩ (fun hHeld => ?_); refine pure_ (i := 0) (N := some 112) (v := ?_) (a' := ?_) (tf 14 1) rfl rfl (by kernel_rfl) (fun _ _ _ h => h) (Or.inl ⟨by rfl, ?_⟩) ?_ ?_; rotate_left; (· intro w'; go_simp; (with_reducible rfl)); rotate_left; (· simp only [pn_]; rfl); refine pure_ (i := 1) (N := some 113) (v := ?_) (a' := ?_) (tf 14 3) rfl rfl (by kernel_rfl) (fun _ _ _ h => h) (Or.inl ⟨by rfl, ?_⟩) ?_ ?_; rotate_left; (· intro w'; go_simp; (with_reducible rfl)); rotate_left; (· simp only [pn_]; rfl); refine pure_ (i := 2) (N := some 114) (v := ?_) (a' := ?_) (tf 14 7) rfl rfl (by kernel_rfl) (fun _ _ _ h => h) (Or.inl ⟨by rfl, ?_⟩) ?_ ?_; rotate_left; (· intro w'; go_simp; (with_reducible rfl)); rotate_left; (· simp only [pn_]; rfl); refine pure_ (i := 3) (N := some 115) (v := ?_) (a' := ?_) (tf 14 15) rfl rfl (by kernel_rfl) (fun _ _ _ h => h) (Or.inl ⟨by rfl, ?_⟩) ?_ ?_; rotate_left; (· intro w'; go_simp; (with_reducible rfl)); rotate_left; (· simp only [pn_]; rfl); refine pure_ (i := 4) (N := some 116) (v := ?_) (a' := ?_) (tf 14 31) rfl rfl (by kernel_rfl) (fun _ _ _ h => h) (Or.inl ⟨by rfl, ?_⟩) ?_ ?_; rotate_left; (· intro w'; go_simp; (with_reducible rfl)); rotate_left; (· simp only [pn_]; rfl); refine pure_ (i := 6) (N := some 118) (v := ?_) (a' := ?_) (tf 14 95) rfl rfl (by kernel_rfl) (fun _ _ _ h => h) (Or.inl ⟨by rfl, ?_⟩) ?_ ?_; rotate_left; (· intro w'; go_simp; (with_reducible rfl)); rotate_left; (· simp only [pn_]; rfl); refine pure_ (i := 7) (N := some 119) (v := ?_) (a' := ?_) (tf 14 223) rfl rfl (by kernel_rfl) (fun _ _ _ h => h) (Or.inl ⟨by rfl, ?_⟩) ?_ ?_; rotate_left; (· intro w'; go_simp; (with_reducible rfl)); rotate_left; (· simp only [pn_]; rfl); refine pure_ (i := 10) (N := some 122) (v := ?_) (a' := ?_) (tf 14 1247) rfl rfl (by kernel_rfl) (fun _ _ _ h => h) (Or.inl ⟨by rfl, ?_⟩) ?_ ?_; rotate_left; (· intro w'; go_simp; (with_reducible rfl)); rotate_left; (· simp only [pn_]; rfl); refine pure_ (i := 11) (N := some 123) (v := ?_) (a' := ?_) (tf 14 3295) rfl rfl (by kernel_rfl) (fun _ _ _ h => h) (Or.inl ⟨by rfl, ?_⟩) ?_ ?_; rotate_left; (· intro w'; go_simp; (with_reducible rfl)); rotate_left; (· simp only [pn_]; rfl); refine take_ (i := 5) (N := some 117) (v := ?_) (a' := ?_) (tf 14 3327) rfl rfl (by kernel_rfl) (fun _ _ _ h => h) (Or.inl ⟨by rfl, ?_⟩) hHeld ?_ ?_; rotate_left; (· rintro w' ⟨s0, s1, s2⟩; go_simp; (with_reducible rfl)); rotate_left; (· simp only [pn_]; rfl); refine take_ (i := 8) (N := some 120) (v := ?_) (a' := ?_) (tf 14 3583) rfl rfl (by kernel_rfl) (fun _ _ _ h => h) (Or.inl ⟨by rfl, ?_⟩) hHeld ?_ ?_; rotate_left; (· rintro w' ⟨s0, s1, s2⟩; go_simp; (with_reducible rfl)); rotate_left; (· simp only [pn_]; rfl); refine pure_ (i := 9) (N := some 121) (v := ?_) (a' := ?_) (tf 14 4095) rfl rfl (by kernel_rfl) (fun _ _ _ h => h) (Or.inl ⟨by rfl, ?_⟩) ?_ ?_; rotate_left; (· intro w'; go_simp; (with_reducible rfl)); rotate_left; (· simp only [pn_]; rfl); refine pure_ (i := 12) (N := some 124) (v := ?_) (a' := ?_) (tf 14 8191) rfl rfl (by kernel_rfl) (fun _ _ _ h => h) (Or.inl ⟨by rfl, ?_⟩) ?_ ?_; rotate_left; (· intro w'; go_simp; (with_reducible rfl)); rotate_left; (· simp only [pn_]; rfl); refine last_ (i := 13) (N := none) (tf 14 16383) rfl rfl (by kernel_rfl) (by decide) (fun K hK => ?_); refine skip_ (w1 := ?_) (by rfl) rfl ?_ ?_; rotate_left; (· go_simp; rfl); refine hK.out _ _ ?_; clear hK K; refine done_ (by kernel_rfl) ?_
              go_wp2
              exact ⟨⟨k + 1, by omega, by go_num, HN.out, HS2.out, HK.out.drew⟩, by simp [intOf]; omega⟩
            · have hk8 : k = 8 := by omega
              subst hk8
              rw [added_all L8 lF] at hH
              have hc : comp m16 [s0, s1, s2, s3, s4, s5, s6, s7] = List.zipWith wAdd SS FF := by rw [HF.out, HS.out]; rfl
              go_wp2
              go_end0
              exact ⟨rfl, by rw [hc]; exact hH, hK⟩
def WaitAt (w : World) (R : Option Addr) (c : Nat) (l : List UInt8) : Prop :=
  l.length ≤ c ∧ c ≤ maxLen ∧ ((R = none ∧ c = 0) ∨ ∃ g off cur, R = some ⟨g, off, none⟩ ∧ w.heap[g]? = some (.cells cur 5 (0, 0)) ∧ off + c ≤ cur.size ∧ ∀ j (hj : j < l.length), cur[off + j]? = some (.int .u8 (l[j].toNat : Int)))
theorem WaitAt.nil (w : World) : WaitAt w none 0 [] := ⟨Nat.le_refl _, by unfold maxLen; omega, .inl ⟨rfl, rfl⟩⟩
theorem WaitAt.of_own {w : World} {base n : Nat} {A : Option Addr} {m c : Nat} {l : List UInt8} (h : w.ownsRow base 5 1 (.slice A m c) n (bytesV l)) : WaitAt w A c l := by
  have h0 := h
  obtain ⟨h1, h2⟩ := h
  have hl : l.length = n := by simpa [bytesV] using h1
  rcases h2 with ⟨e1, rfl⟩ | ⟨g, cap, cur, e1, hb, hh, hn, hc, hs, ht⟩
  · cases e1
    obtain rfl := List.eq_nil_of_length_eq_zero hl
    exact WaitAt.nil w
  · cases e1
    refine ⟨by omega, by simpa using hc, .inr ⟨g, 0, cur, rfl, hh, by omega, fun j hj => ?_⟩⟩
    have := h0.cells (g := g) rfl j _ (bytesV_get l j hj)
    rw [add_plain, cell_of_row w g j cur _ _ hh] at this
    simpa using this
theorem WaitAt.bsa {w : World} {R : Option Addr} {c : Nat} {l : List UInt8} (h : WaitAt w R c l) : BSA w R c l := by
  obtain ⟨h1, h2, h3⟩ := h
  refine ⟨h1, h2, fun e => ?_, fun ad e j hj => ?_⟩
  · rcases h3 with ⟨_, h3⟩ | ⟨g, off, cur, e', _⟩
    · exact h3
    · rw [e] at e'; cases e'
  · rcases h3 with ⟨e', h3⟩ | ⟨g, off, cur, e', h4, h5, h6⟩
    · rw [e] at e'; cases e'
    · rw [e] at e'
      cases e'
      have : (⟨g, off, none⟩ : Addr).add j = ⟨g, off + j, none⟩ := by unfold Addr.add; split <;> simp_all
      rw [this, cell_of_row w g (off + j) cur _ _ h4]
      exact h6 j hj
theorem WaitAt.keeps {S : Nat → Prop} {w w' : World} {R : Option Addr} {c : Nat} {l : List UInt8} (h : WaitAt w R c l) (hk : Keeps S w w') (hn : ∀ ad, R = some ad → ¬ S ad.block) : WaitAt w' R c l := by
  obtain ⟨h1, h2, h3⟩ := h
  refine ⟨h1, h2, ?_⟩
  rcases h3 with h3 | ⟨g, off, cur, rfl, h4, h5⟩
  · exact .inl h3
  · exact .inr ⟨g, off, cur, rfl, hk.heap h4 (hn _ rfl), h5⟩
theorem WaitAt.below {w w' : World} {R : Option Addr} {c : Nat} {l : List UInt8} (h : WaitAt w R c l) (hb : Below w.heap.size w w') : WaitAt w' R c l := h.keeps (S := fun _ => False) (Keeps.of_below hb) (fun _ _ e => e)
theorem WaitAt.other {w : World} {R : Option Addr} {c : Nat} {l : List UInt8} (h : WaitAt w R c l) {b : Nat} {cs : Array Value} {t : TypeId} {fr : Nat × Nat} (hb : w.heap[b]? = some (.cells cs t fr)) (ht : t ≠ 5) : ∀ ad, R = some ad → ad.block ≠ b := by
  intro ad e e'
  rcases h.2.2 with ⟨h3, _⟩ | ⟨g, off, cur, h3, h4, _⟩
  · rw [e] at h3; cases h3
  · rw [e] at h3
    cases h3
    subst e'
    rw [h4] at hb
    simp only [Option.some.injEq, Obj.cells.injEq] at hb
    exact ht hb.2.1.symm
theorem WaitAt.drop {w : World} {g off c : Nat} {l : List UInt8} (h : WaitAt w (some ⟨g, off, none⟩) c l) (k : Nat) (hk : k ≤ l.length) : WaitAt w (some ⟨g, off + k, none⟩) (c - k) (l.drop k) := by
  obtain ⟨h1, h2, h3⟩ := h
  refine ⟨by simp; omega, by omega, ?_⟩
  rcases h3 with ⟨h3, _⟩ | ⟨g', off', cur, h3, h4, h5, h6⟩
  · cases h3
  · cases h3
    refine .inr ⟨g, off + k, cur, rfl, h4, by omega, fun j hj => ?_⟩
    have hj' : k + j < l.length := by simp at hj; omega
    have := h6 (k + j) hj'
    simp only [List.getElem_drop]
    rw [← this]
    congr 1
    omega
theorem wpList_appW {w : World} {ops : Array Oper} {rest : List Oper} {o : Oper} {a : Act} {Q : Exit → Act → World → Prop} (hgd : o.guard = none) (s x : Operand)
    (ho : o.op = .call { callee := .builtin .append, args := #[s, x], argTypes := #[36, 36] })
    (R : Option Addr) (c : Nat) (l : List UInt8) (hs : a.eval s = .slice R l.length c) (hW : WaitAt w R c l) (A : Option Addr) (c2 : Nat) (q : List UInt8) (hx : a.eval x = .slice A q.length c2) (hb : BSA w A c2 q)
    (hq : R = none ∨ q.length = 1) (h47 : l.length + q.length ≤ 140737488355328)
    (h : ∀ R' c' w', WaitAt w' R' c' (l ++ q) → Keeps (fun k => ∃ ad, R = some ad ∧ ad.block = k) w w' → (∀ ad, R' = some ad → (∃ ad', R = some ad' ∧ ad'.block = ad.block) ∨ w.heap.size ≤ ad.block) → wpList Tryz.prog ops Q rest (a.put o.dst (.slice R' (l.length + q.length) c')) w') : wpList Tryz.prog ops Q (o :: rest) a w := by
  obtain ⟨h1, h2, h3⟩ := hW
  rcases h3 with ⟨rfl, rfl⟩ | ⟨g, off, cur, rfl, h4, h5, h6⟩
  · have hl : l = [] := List.eq_nil_of_length_eq_zero (by omega)
    subst hl
    refine wpList_app8 36 5 Tryz.underlying36 (by kernel_rfl) hgd s x ho (.slice none 0 0) [] hs (World.ownsRow_nil _ _ _ _) A c2 q hx hb h47 ?_
    intro A' c' w' k1 k2 k3 k4
    refine h A' c' w' (WaitAt.of_own k1) ((Keeps.refl _ w).grown k2 (fun k e => by cases e)) (fun ad e => .inr ?_)
    rcases k3 with k3 | k3
    · cases A' with
      | none => cases e
      | some ad' => simp [Value.ownBlock] at k3
    · cases A' with
      | none => cases e
      | some ad' =>
        cases e
        simp only [Value.ownBlock, Option.some.injEq] at k3
        omega
  · rcases hq with hq | hq
    · cases hq
    · obtain ⟨n1, n2, n3⟩ := bsa_news hb
      obtain ⟨v0, rfl⟩ : ∃ v0, q = [v0] := by
        match q, hq with
        | [v0], _ => exact ⟨v0, rfl⟩
      cases A with
      | none => have := (n2 rfl).1; simp at this
      | some ad =>
        obtain ⟨i0, hi, hz0, hz1, hz2⟩ := info_parts (show (Tryz.prog.info? 5).map (fun i => (i.zero, i.size, i.bytes)) = some (some (.int .u8 0), 1, 1) by kernel_rfl)
        have hcell : ∀ j, w.cell? ⟨g, j, none⟩ = cur[j]? := fun j => cell_of_row w g j cur _ _ h4
        refine wpList_append_arg w hgd s x 36 ho 5 i0 (.int .u8 0) 1 1 Tryz.underlying36 hi hz0 hz1 hz2 rfl (by decide) g off l.length c (bytesV l) hs (by simp [bytesV]) ?_ ad 1 c2 (bytesV [v0]) hx (by simp [bytesV]) (n3 ad rfl) (bytesV_one _) ?_ (by unfold maxLen; simp at h47; omega) (by simp at h47; omega) ?_ ?_
        · intro j u hu
          obtain ⟨hj, rfl⟩ := bytesV_some hu
          rw [hcell]
          exact h6 j hj
        · intro hroom j hj
          have hj0 : j = 0 := by simp [bytesV] at hj; omega
          subst hj0
          refine ⟨?_, free_at h4 _⟩
          rw [hcell]
          simp only [Nat.mul_one, Nat.add_zero]
          rw [Array.getElem?_eq_getElem (by omega)]
          rfl
        · intro hroom
          have e1 : w.setCells g (off + l.length * 1) (bytesV [v0]) = w.setCell ⟨g, off + l.length, none⟩ (.int .u8 (v0.toNat : Int)) := by rw [Nat.mul_one]; rfl
          rw [e1]
          refine h (some ⟨g, off, none⟩) c _ ⟨by simp; omega, h2, .inr ⟨g, off, cur.setIfInBounds (off + l.length) (.int .u8 (v0.toNat : Int)), rfl, heap_set h4, by simpa using h5, fun j hj => ?_⟩⟩ ((Keeps.refl _ w).setCell (p := ⟨g, off + l.length, none⟩) (fun _ => ⟨_, rfl, rfl⟩) _) (fun ad e => .inl ⟨_, rfl, by cases e; rfl⟩)
          by_cases ej : j = l.length
          · subst ej
            rw [Array.getElem?_setIfInBounds_self_of_lt (by omega)]
            simp
          · rw [Array.getElem?_setIfInBounds_ne (by omega)]
            have hj' : j < l.length := by simp at hj; omega
            rw [List.getElem_append_left hj']
            exact h6 j hj'
        · intro hgrow v' w' k1 k2
          have hform : ∃ A' c', v' = .slice A' (l.length + 1) c' := by
            rcases k1.2 with ⟨_, h0⟩ | ⟨g', cap', cur', e', _⟩
            · omega
            · exact ⟨_, _, e'⟩
          obtain ⟨A', c', rfl⟩ := hform
          rw [← bytesV_append] at k1
          refine h A' c' w' (WaitAt.of_own k1) ((Keeps.refl _ w).grown k2 (fun k e => by cases e)) (fun ad e => .inr ?_)
          rcases k1.2 with ⟨_, h0⟩ | ⟨g', cap', cur', e', hb', _⟩
          · omega
          · subst e
            cases e'
            exact hb'
end Go.Proofs.YtnidgljkbmceaaaGreatDoor
