/- TopSkew's walks: a batch's bytes, all of them. -/
import Derived.Test.YtnidgljkbmceaaaGreatDoorPn
import Derived.Test.YtnidgljkbmceaaaGreatDoorG11
set_option linter.unusedVariables false
set_option linter.unusedSimpArgs false
namespace Go.Proofs.YtnidgljkbmceaaaGreatDoor
open Go.RowKit PrintLast Go.Maps Go.MapKept
theorem BatAt.at2 {w : World} {tx : Nat → TxR} {n g c : Nat} {ws : List (ByteArray × Value)} (h : BatAt w tx n g c ws) {m : Nat} (hm : m < n) : ∃ A c', w.cell? ⟨g, m * 3, none⟩ = some (.string (tx m).k) ∧ w.cell? ⟨g, m * 3 + 1, none⟩ = some (.slice A (tx m).row.length c') ∧ w.cell? ⟨g, m * 3 + 2, none⟩ = some (.bool false) ∧ ∀ w', BatAt w' tx n g c ws → OwnB w' (.slice A (tx m).row.length c') (tx m).row := by
  have hl : m < ws.length := by rw [h.len]; exact hm
  obtain ⟨e1, e2, e3⟩ := wcells_get ws m hl
  obtain ⟨k1, o1⟩ := h.rows m hl
  obtain ⟨A, c', e4, b4⟩ := o1.bs
  rw [k1] at e1
  rw [e4] at e2
  exact ⟨A, c', row_news h.wrs _ _ e1, row_news h.wrs _ _ e2, row_news h.wrs _ _ e3, fun w' h' => e4 ▸ (h'.rows m hl).2⟩
theorem Keeps.keepsB {S : Nat → Prop} {w w' : World} {B : Nat} (h : Keeps S w w') (hS : ∀ k, S k → B ≤ k) (hB : B ≤ w.heap.size) : Below B w w' := ⟨h.os, h.tape, h.output, h.size, fun k hk => h.block k (by omega) (fun e => by have := hS k e; omega)⟩
set_option maxRecDepth 100000 in
set_option maxHeartbeats 6400000 in
theorem encode_any {w : World} {tx : Nat → TxR} {n g c N : Nat} {ws : List (ByteArray × Value)} (h : BatAt w tx n g c ws) (hN : N ≤ 1000) : Calls Tryz.prog 88 #[.agg #[.int .i64 (N : Int), .slice (some ⟨g, 0, none⟩) n c]] w fun e w' => ∃ A c' m l, e = .returned (.slice A m c') ∧ l.length = m ∧ m ≤ 100000 ∧ OwnB w' (.slice A m c') l ∧ (∀ b, (Value.slice A m c').ownBlock = some b → w.heap.size ≤ b) ∧ Below w.heap.size w w' := by
  have H0 := hid h
  obtain ⟨Z, hZ⟩ : ∃ x, x = w.heap.size := ⟨_, rfl⟩
  obtain ⟨w1, hw1⟩ : ∃ x, x = w.alloc (.cells #[.int .i64 (N : Int), .slice (some ⟨g, 0, none⟩) n c] 104) := ⟨_, rfl⟩
  have b1 : Below w.heap.size w w1 := by rw [hw1]; exact below_alloc (Below.refl _ _) _
  have g1 : w1.heap[Z]? = some (.cells #[.int .i64 (N : Int), .slice (some ⟨g, 0, none⟩) n c] 104 (0, 0)) := by rw [hw1, hZ]; exact heap_alloc_new _ _
  have HB := hid (And.intro (h.below b1) (And.intro g1 b1))
  have W1 := hid (And.intro hw1 hZ)
  have d0 := cell_at g1 (i := 0) (v := .int .i64 (N : Int)) rfl
  have d1 := cell_at g1 (i := 1) (v := .slice (some ⟨g, 0, none⟩) n c) rfl
  obtain ⟨hc1, hc2⟩ := h.cap
  have n1 := h.n1
  have hwN : IntKind.u64.wrap (N : Int) = (N : Int) := by rw [IntKind.wrap_u64]; omega
  have hwn : IntKind.u64.wrap (n : Int) = (n : Int) := by rw [IntKind.wrap_u64]; omega
  have H1 := hid (number_own (w := w1.drew) (A := none) (c := 0) (l := []) (N := 0) (n := N) (m := 8) rfl (World.ownsRow_nil _ _ _ _) (by omega) (by omega))
  have H2 := hid (fun (wz : World) (A : Option Addr) (c0 : Nat) (o : OwnB wz (.slice A (0 + 8) c0) ([] ++ numBytes N 8)) => number_own (w := wz) (n := n) (m := 2) (by rw [List.length_append, numBytes_length]; rfl) o (by omega) (by omega))
  rw [show ((8 : Nat) : Int) = 8 from rfl] at H1
  rw [show ((2 : Nat) : Int) = 2 from rfl] at H2
  clear h hw1 hZ b1 g1
  go_enter Tryz.func88, Tryz.ntmps88
  go_upto_region 1 with fail
  rw [← W1.out.1, ← W1.out.2]
  refine start_ (n := 10) (S := fun w' => w'.cell? ⟨Z, 0, none⟩ = some (.int .i64 (N : Int)) ∧ w'.cell? ⟨Z, 1, none⟩ = some (.slice (some ⟨g, 0, none⟩) n c)) (ds := [8]) (tf 10 0) (by kernel_rfl) rfl rfl ⟨d0, d1⟩ (fun hHeld => ?_); refine pure_ (i := 0) (N := some 6) (v := ?_) (a' := ?_) (tf 10 1) rfl rfl (by kernel_rfl) (fun _ _ _ h => h) (Or.inl ⟨by rfl, ?_⟩) ?_ ?_; rotate_left; (· intro w'; go_simp; (with_reducible rfl)); rotate_left; (· simp only [pn_, hwN, hwn]; rfl); refine pure_ (i := 4) (N := some 10) (v := ?_) (a' := ?_) (tf 10 17) rfl rfl (by kernel_rfl) (fun _ _ _ h => h) (Or.inl ⟨by rfl, ?_⟩) ?_ ?_; rotate_left; (· intro w'; go_simp; (with_reducible rfl)); rotate_left; (· simp only [pn_, hwN, hwn]; rfl); refine take_ (i := 1) (N := some 7) (v := ?_) (a' := ?_) (tf 10 19) rfl rfl (by kernel_rfl) (fun _ _ _ h => h) (Or.inl ⟨by rfl, ?_⟩) hHeld ?_ ?_; rotate_left; (· rintro w' ⟨s0, s1⟩; go_simp; (with_reducible rfl)); rotate_left; (· simp only [pn_, hwN, hwn]; rfl); refine pure_ (i := 2) (N := some 8) (v := ?_) (a' := ?_) (tf 10 23) rfl rfl (by kernel_rfl) (fun _ _ _ h => h) (Or.inl ⟨by rfl, ?_⟩) ?_ ?_; rotate_left; (· intro w'; go_simp; (with_reducible rfl)); rotate_left; (· simp only [pn_, hwN, hwn]; rfl); refine take_ (i := 5) (N := some 11) (v := ?_) (a' := ?_) (tf 10 55) rfl rfl (by kernel_rfl) (fun _ _ _ h => h) (Or.inl ⟨by rfl, ?_⟩) hHeld ?_ ?_; rotate_left; (· rintro w' ⟨s0, s1⟩; go_simp; (with_reducible rfl)); rotate_left; (· simp only [pn_, hwN, hwn]; rfl); refine pure_ (i := 6) (N := some 12) (v := ?_) (a' := ?_) (tf 10 119) rfl rfl (by kernel_rfl) (fun _ _ _ h => h) (Or.inl ⟨by rfl, ?_⟩) ?_ ?_; rotate_left; (· intro w'; go_simp; (with_reducible rfl)); rotate_left; (· simp only [pn_, hwN, hwn]; rfl); refine pure_ (i := 7) (N := some 13) (v := ?_) (a' := ?_) (tf 10 247) rfl rfl (by kernel_rfl) (fun _ _ _ h => h) (Or.inl ⟨by rfl, ?_⟩) ?_ ?_; rotate_left; (· intro w'; go_simp; (with_reducible rfl)); rotate_left; (· simp only [pn_, hwN, hwn]; rfl); refine one_ (i := 3) (N := some 9) (tf 10 255) rfl rfl (by kernel_rfl) (by decide) (fun K hK => ?_); refine goes_ Tryz.func156 (by kernel_rfl) rfl #[.slice none 0 0, .int .u64 (N : Int), .int .i64 8] (by rfl) rfl rfl (by simp only [List.map_toArray, List.map_cons, List.map_nil]; rfl) ?_; (with_reducible refine (H1.out).mono ?_); rintro e w2 ⟨A2, c2, rfl, o2, f2, k2⟩; refine ⟨_, rfl, ?_⟩; refine hK.out _ _ ⟨k2.cell hHeld.1 (fun h => by cases h), k2.cell hHeld.2 (fun h => by cases h)⟩ (fun hHeld => ?_); clear hK K; refine norm_ (a' := ?_) ?_ ?_; rotate_left; (· show Act.put _ (some 9) _ = _; simp only [pn_, hwN, hwn]; rfl); refine last_ (i := 8) (N := some 14) (tf 10 511) rfl rfl (by kernel_rfl) (by decide) (fun K hK => ?_); refine goes_ Tryz.func156 (by kernel_rfl) rfl #[.slice A2 (0 + 8) c2, .int .u64 (n : Int), .int .i64 2] (by rfl) rfl rfl (by simp only [List.map_toArray, List.map_cons, List.map_nil]; rfl) ?_; (with_reducible refine ((H2.out _ _ _ o2)).mono ?_); rintro e w3 ⟨A3, c3, rfl, o3, f3, k3⟩; refine ⟨_, rfl, ?_⟩; refine hK.out _ _ ?_; clear hK K; refine norm_ (a' := ?_) ?_ ?_; rotate_left; (· show Act.put _ (some 14) _ = _; simp only [pn_, hwN, hwn]; rfl); refine pure_ (i := 9) (N := some 3) (v := ?_) (a' := ?_) (tf 10 1023) rfl rfl (by kernel_rfl) (fun _ _ _ h => h) (Or.inl ⟨by rfl, ?_⟩) ?_ ?_; rotate_left; (· intro w'; go_simp; (with_reducible rfl)); rotate_left; (· simp only [pn_, hwN, hwn]; rfl); refine done_ (by kernel_rfl) ?_
  have z1 : w.heap.size ≤ w1.heap.size := HB.out.2.2.size
  have z2 : w1.heap.size ≤ w2.heap.size := k2.size
  have F2 : ∀ b, (Value.slice A2 (0 + 8) c2).ownBlock = some b → w1.heap.size ≤ b := fun b e => by
    rcases f2 b e with q | q
    · cases q
    · exact q
  have b3 : Below w1.heap.size w1 w3 := (below_then (Below.refl w1.heap.size w1).drew (Keeps.keepsB k2 (fun k e => by cases e) (Nat.le_refl _))).trans (Keeps.keepsB k3 F2 z2)
  have L3 : ((([] : List UInt8) ++ numBytes N 8) ++ numBytes n 2).length = 10 := by rw [List.length_append, List.length_append, numBytes_length, numBytes_length]; rfl
  have ST := hid (show ∃ l : List UInt8, l.length = 10 ∧ OwnB w3 (.slice A3 10 c3) l ∧ (∀ b, (Value.slice A3 10 c3).ownBlock = some b → w.heap.size ≤ b) ∧ BatAt w3 tx n g c ws ∧ w3.heap[Z]? = some (.cells #[.int .i64 (N : Int), .slice (some ⟨g, 0, none⟩) n c] 104 (0, 0)) ∧ Below w.heap.size w w3 from
    ⟨_, L3, o3, fun b e => by
      rcases f3 b e with q | q
      · have := F2 b q; omega
      · omega, HB.out.1.below b3, below_heap b3 HB.out.2.1, below_then HB.out.2.2 b3⟩)
  clear z1 z2 F2 b3 L3 o2 f2 k2 o3 f3 k3 H1 H2 d0 d1 HB W1 hwN hwn
  obtain ⟨l0, hST⟩ := ST.out
  have e1 := cell_at hST.2.2.2.2.1 (i := 1) (v := .slice (some ⟨g, 0, none⟩) n c) rfl
  have S0 := hid hST
  clear hST ST
  go_wp2
  try simp only [Nat.zero_add, Nat.reduceAdd]
  go_loopw [3, 18] (fun v i wr => ∃ (j m c' : Nat) (A : Option Addr) (l : List UInt8), j ≤ n ∧ i = .int .i64 j ∧ v = .slice A m c' ∧ Hid (l.length = m ∧ m ≤ 10 + j * 3000 ∧ OwnB wr (.slice A m c') l ∧ (∀ b, (Value.slice A m c').ownBlock = some b → w.heap.size ≤ b) ∧ Below w.heap.size w wr)) (fun _ i _ => n - (intOf i).toNat)
  case atStart => exact ⟨0, 10, c3, A3, l0, by omega, rfl, rfl, hid ⟨S0.out.1, by omega, S0.out.2.1, S0.out.2.2.1, S0.out.2.2.2.2.2⟩⟩
  case round =>
    clear e1
    obtain ⟨j, m, c', A, l, hj, rfl, rfl, hh⟩ := hrel
    by_cases hlt : j < n
    · have t1 : decide ((j : Int) < (n : Int)) = true := by simp; omega
      have BA := H0.out.below hh.out.2.2.2.2
      obtain ⟨A1, c1, q0, q1, q2, o1⟩ := BA.at2 hlt
      have kl := BA.keys j hlt
      have rlen := BA.lens j hlt
      obtain ⟨S8, hS8⟩ : ∃ S, S = wr.heap.size := ⟨_, rfl⟩
      obtain ⟨rl, hrl⟩ : ∃ x, x = (tx j).row.length := ⟨_, rfl⟩
      obtain ⟨kk, hkk⟩ : ∃ x, x = (tx j).k := ⟨_, rfl⟩
      rw [← hrl] at q1 o1 rlen
      rw [← hkk] at q0 kl
      obtain ⟨w8, hw8⟩ : ∃ x, x = wr.alloc (.cells #[.string kk, .slice A1 rl c1, .bool false] 209) := ⟨_, rfl⟩
      have b8 : Below wr.heap.size wr w8 := by rw [hw8]; exact below_alloc (Below.refl _ _) _
      have g8 : w8.heap[S8]? = some (.cells #[.string kk, .slice A1 rl c1, .bool false] 209 (0, 0)) := by rw [hw8, hS8]; exact heap_alloc_new _ _
      have P8 := hid (And.intro (hh.out.2.2.1.below b8) (And.intro (below_then hh.out.2.2.2.2 b8) (And.intro (BA.below b8) (And.intro g8 (And.intro o1 (And.intro hrl (And.intro kl rlen)))))))
      have LL := hid (And.intro hh.out.1 (And.intro hh.out.2.1 hh.out.2.2.2.1))
      have W8 := hid (And.intro hw8 (And.intro hS8 hkk))
      have ks : kk.size ≤ maxLen := by unfold maxLen; omega
      have s0 := cell_at g8 (i := 0) rfl
      clear hw8 hS8 b8 g8 hrl hkk hh BA kl rlen o1
      go_upto_region 5 with fail
      rw [← W8.out.1, ← W8.out.2.1]
      clear q0 q1 q2
      go_wp2_with (refine wpList_conv rfl (.tmp 24) rfl kk rfl ks ?_)
      intro g9 c9 w9 z9 q9 b9
      have HBl := hid (blob_own (w := w9) (m := kk.size) (q := kk.data.toList) LL.out.1 (P8.out.1.below b9) (bsz kk) q9 (fun ad e hb => by cases e; have h1 : g9 < w8.heap.size := P8.out.1.lt hb; omega) (by have := LL.out.2.1; have := P8.out.2.2.1.n1; omega) (by have := P8.out.2.2.2.2.2.2.1; omega))
      have B9 := hid b9
      clear q9 b9 s0
      go_wp2_with fail
      refine HBl.out.mono ?_
      rintro e w10 ⟨A10, c10, l10, rfl, h10, o10, f10, k10⟩
      have z8 : w8.heap.size ≤ w9.heap.size := B9.out.size
      have z0 : w.heap.size ≤ w8.heap.size := P8.out.2.1.size
      have oA : ∀ k, (Value.slice A m c').ownBlock = some k → w.heap.size ≤ k ∧ k < w8.heap.size := fun k e => ⟨LL.out.2.2 k e, P8.out.1.lt e⟩
      have tA : ∀ k, (Value.slice A m c').ownBlock = some k → ∃ cur, w9.heap[k]? = some (.cells cur 5 (0, 0)) := fun k e => (P8.out.1.below B9.out).block e
      have G10 := k10.heap (below_heap B9.out P8.out.2.2.2.1) (fun e => by
        obtain ⟨cur, hc⟩ := tA S8 e
        rw [below_heap B9.out P8.out.2.2.2.1] at hc
        injection hc with hc
        injection hc with _ hc
        exact absurd hc (by decide))
      have B10 : Below w.heap.size w w10 := (below_then P8.out.2.1 B9.out).trans (Keeps.keepsB k10 (fun k e => (oA k e).1) (by omega))
      have f10' : ∀ b, (Value.slice A10 (m + 2 + kk.size) c10).ownBlock = some b → w.heap.size ≤ b := fun b e => by
        rcases f10 b e with q | q
        · exact (oA b q).1
        · omega
      obtain ⟨m1, hm1⟩ : ∃ x, x = m + 2 + kk.size := ⟨_, rfl⟩
      rw [← hm1] at h10 o10 f10' ⊢
      have HM1 := hid hm1
      clear hm1
      have o11 : OwnB w10 (.slice A1 rl c1) (tx j).row := P8.out.2.2.2.2.1 w10 (H0.out.below B10)
      obtain ⟨X, hX⟩ : ∃ X, X = l10 := ⟨_, rfl⟩
      have oX := o10
      unfold OwnB at oX
      rw [h10] at oX
      have s1 := cell_at G10 (i := 1) rfl
      have s2 := cell_at G10 (i := 2) rfl
      have HD := hid (And.intro B10 (And.intro f10' (And.intro h10 (And.intro o10 G10))))
      have LB := hid (show m1 ≤ 10 + j * 3000 + 2 + 1000 by have := LL.out.2.1; have := P8.out.2.2.2.2.2.2.1; have := HM1.out; omega)
      have O11 := hid o11
      clear HBl k10 f10 z8 z0 oA tA G10 B10 f10' o11 o10 hX X W8
      go_upto_region 8 with fail
      have al := below_alloc (Below.refl _ w10.drew) (.cells #[.int .u8 0] 5)
      have oX2 : (w10.drew.alloc (.cells #[.int .u8 0] 5)).ownsRow 0 5 1 (.slice A10 m1 c10) l10.length (bytesV l10) := by rw [HD.out.2.2.1]; exact below_own al (show w10.drew.ownsRow 0 5 1 (.slice A10 m1 c10) m1 (bytesV l10) from oX)
      have tX : ∀ k, (Value.slice A10 m1 c10).ownBlock = some k → ∃ cur, w10.heap[k]? = some (.cells cur 5 (0, 0)) := fun k e => HD.out.2.2.2.1.block e
      clear oX al
      refine start_ (n := 7) (S := fun w' => w'.cell? ⟨S8, 1, none⟩ = some (.slice A1 rl c1)) (ds := [5]) (tf 7 0) (by kernel_rfl) rfl rfl (s1) (fun hHeld => ?_); refine pure_ (i := 0) (N := some 32) (v := ?_) (a' := ?_) (tf 7 1) rfl rfl (by kernel_rfl) (fun _ _ _ h => h) (Or.inl ⟨by rfl, ?_⟩) ?_ ?_; rotate_left; (· intro w'; go_simp; (with_reducible rfl)); rotate_left; (· simp only [pn_]; rfl); refine pure_ (i := 3) (N := some 35) (v := ?_) (a' := ?_) (tf 7 9) rfl rfl (by kernel_rfl) (fun _ _ _ h => h) (Or.inl ⟨by rfl, ?_⟩) ?_ ?_; rotate_left; (· intro w'; go_simp; (with_reducible rfl)); rotate_left; (· simp only [pn_]; rfl); refine take_ (i := 4) (N := some 36) (v := ?_) (a' := ?_) (tf 7 25) rfl rfl (by kernel_rfl) (fun _ _ _ h => h) (Or.inl ⟨by rfl, ?_⟩) hHeld ?_ ?_; rotate_left; (· intro w' s0; go_simp; (with_reducible rfl)); rotate_left; (· simp only [pn_]; rfl); refine one_ (i := 1) (N := some 33) (tf 7 27) rfl rfl (by kernel_rfl) (by decide) (fun K hK => ?_); refine value_ (w1 := ?_) (v := ?_) (by rfl) rfl ?_ ?_; rotate_left 2; (· go_simp; constructor; (· rfl); (· rfl)); refine hK.out _ _ (below_cell (below_alloc (Below.refl _ w10.drew) (.cells #[.int .u8 0] 5)) hHeld) (fun hHeld => ?_); clear hK K; refine norm_ (a' := ?_) ?_ ?_; rotate_left; (· show Act.put _ (some 33) _ = _; simp only [pn_]; rfl); refine one_ (i := 2) (N := some 34) (tf 7 31) rfl rfl (by kernel_rfl) (by decide) (fun K hK => ?_); refine step_app8 36 5 Tryz.underlying36 infU8' rfl (.tmp 32) (.tmp 33) rfl _ l10 rfl oX2 (some ⟨w10.heap.size, 0, none⟩) 1 [0] rfl (lit_bsa w10.drew 0) (by rw [HD.out.2.2.1]; have := LB.out; have := P8.out.2.2.1.n1; simp; omega) ?_
      rw [HD.out.2.2.1]
      intro A11 c11 w11 m2 m3 m4 m5; have f1 := (m3.block S8 (by have := lt_of_block HD.out.2.2.2.2; simp; omega) (fun e => by obtain ⟨cur, hc⟩ := tX S8 e.symm; rw [HD.out.2.2.2.2] at hc; injection hc with hc; injection hc with _ hc; exact absurd hc (by decide))).trans (below_heap (below_alloc (Below.refl _ w10.drew) (.cells #[.int .u8 0] 5)) (show w10.drew.heap[S8]? = _ from HD.out.2.2.2.2)); refine hK.out _ _ (cell_at f1 (i := 1) rfl) (fun hHeld => ?_); clear hK K; refine norm_ (a' := ?_) ?_ ?_; rotate_left; (· show Act.put _ (some 34) _ = _; simp only [pn_]; rfl); refine last_ (i := 5) (N := some 37) (tf 7 63) rfl rfl (by kernel_rfl) (by decide) (fun K hK => ?_); have B11 : Below w.heap.size w w11 := ((HD.out.1.drew).alloc HD.out.1.size _).grown m3 (by have := HD.out.1.size; simp; omega) HD.out.2.1
      have f11 : ∀ b, (Value.slice A11 (m1 + 1) c11).ownBlock = some b → w.heap.size ≤ b := fun b e => m4.elim (fun q => HD.out.2.1 b (q ▸ e)) (fun q => by have e' : (Value.slice A11 (m1 + [(0 : UInt8)].length) c11).ownBlock = some b := e; rw [q] at e'; simp at e'; have := HD.out.1.size; omega)
      have o11 : OwnB w11 (.slice A11 (m1 + 1) c11) (l10 ++ [0]) := by unfold OwnB; rw [List.length_append, HD.out.2.2.1]; exact m2
      have q11 := P8.out.2.2.2.2.1 w11 (H0.out.below B11); have qw := P8.out.2.2.2.2.1 w H0.out; have HB2 := hid (blob_own (w := w11) (m := rl) (q := (tx j).row) (by rw [List.length_append, HD.out.2.2.1]; rfl) o11 P8.out.2.2.2.2.2.1.symm (by obtain ⟨A', c', e', b'⟩ := q11.bs; rw [← P8.out.2.2.2.2.2.1] at e'; cases e'; exact b') (fun ad e hb => by subst e; have h1 := qw.lt (k := ad.block) rfl; have h2 := f11 _ hb; omega) (by have := LB.out; have := P8.out.2.2.1.n1; omega) (by have := P8.out.2.2.2.2.2.2.2; omega)); refine goes_ Tryz.func157 (by kernel_rfl) rfl #[.slice A11 (m1 + 1) c11, .slice A1 rl c1] (by rfl) rfl rfl (by simp only [List.map_toArray, List.map_cons, List.map_nil]; rfl) ?_; (with_reducible refine (HB2.out).mono ?_); rintro e w12 ⟨A12, c12, l12, rfl, h12, o12, f12, k12⟩; refine ⟨_, rfl, ?_⟩; refine hK.out _ _ ?_; clear hK K; refine norm_ (a' := ?_) ?_ ?_; rotate_left; (· show Act.put _ (some 37) _ = _; simp only [pn_]; rfl); refine pure_ (i := 6) (N := some 3) (v := ?_) (a' := ?_) (tf 7 127) rfl rfl (by kernel_rfl) (fun _ _ _ h => h) (Or.inl ⟨by rfl, ?_⟩) ?_ ?_; rotate_left; (· intro w'; go_simp; (with_reducible rfl)); rotate_left; (· simp only [pn_]; rfl); refine done_ (by kernel_rfl) ?_
      have FF := hid (show l12.length = m1 + 1 + 2 + rl ∧ m1 + 1 + 2 + rl ≤ 10 + (j + 1) * 3000 ∧ OwnB w12 (.slice A12 (m1 + 1 + 2 + rl) c12) l12 ∧ (∀ b, (Value.slice A12 (m1 + 1 + 2 + rl) c12).ownBlock = some b → w.heap.size ≤ b) ∧ Below w.heap.size w w12 from
        ⟨h12, by have := LB.out; have := P8.out.2.2.2.2.2.2.2; omega, o12, fun b e => by
          rcases f12 b e with q | q
          · exact f11 b q
          · have := B11.size; omega, B11.trans (Keeps.keepsB k12 f11 B11.size)⟩)
      obtain ⟨m3', hm3⟩ : ∃ x, x = m1 + 1 + 2 + rl := ⟨_, rfl⟩
      rw [← hm3] at FF ⊢
      clear hm3 h12 o12 f12 k12 HB2 qw q11 o11 f11 B11 m2 m3 m4 m5 f1 oX2 tX HD LB O11 P8 LL s1 s2
      go_wp2
      go_roundw
      case rel => exact ⟨j + 1, m3', c12, A12, l12, by omega, by go_num, rfl, FF⟩
      case measure => simp [intOf]; omega
    · obtain rfl : j = n := by omega
      have t1 : decide ((j : Int) < (j : Int)) = false := by simp
      go_wp2
      go_ret
      exact ⟨A, c', m, l, rfl, hh.out.1, by have := hh.out.2.1; omega, hh.out.2.2.1, hh.out.2.2.2.1, hh.out.2.2.2.2⟩
def Miss (k : ByteArray) (es : Array MapEntry) : Prop := ∀ e ∈ es.toList, ∃ k' v n, e = entS k' v n ∧ k ≠ k'
theorem Miss.find {k : ByteArray} {es : Array MapEntry} (h : Miss k es) : Instr.findNow .string (.string k) es.toList 0 = some none := find_miss _ _ h
theorem Miss.push {k k' : ByteArray} {es : Array MapEntry} (h : Miss k es) (hne : k ≠ k') (v : Value) (n : Nat) : Miss k (es.push (entS k' v n)) := by
  intro e he
  simp only [Array.toList_push, List.mem_append, List.mem_singleton] at he
  rcases he with he | rfl
  · exact h e he
  · exact ⟨_, _, _, rfl, hne⟩
theorem find_last {k : ByteArray} (v : Value) (n : Nat) : ∀ (l : List MapEntry) (i : Nat), (∀ e ∈ l, ∃ k' v n, e = entS k' v n ∧ k ≠ k') → Instr.findNow .string (.string k) (l ++ [entS k v n]) i = some (some (i + l.length, v))
  | [], i, _ => find_at k v n i []
  | e :: l, i, h => by
    obtain ⟨k', v', n', rfl, hne⟩ := h e (.head _)
    rw [List.cons_append, find_skip hne, find_last v n l (i + 1) (fun x hx => h x (.tail _ hx)), List.length_cons]
    congr 3
    omega
def chL (tx : Nat → TxR) (q : Nat) : Nat → Array MapEntry → List Nat → Array MapEntry
  | _, es, [] => es
  | i, es, C :: l => chL tx q (i + 1) (es.push (entS (tx i).k (.pointer (some ⟨C, 0, none⟩)) (q + i))) l
theorem chL_snoc (tx : Nat → TxR) (q : Nat) (C : Nat) : ∀ (l : List Nat) (i : Nat) (es : Array MapEntry), chL tx q i es (l ++ [C]) = (chL tx q i es l).push (entS (tx (i + l.length)).k (.pointer (some ⟨C, 0, none⟩)) (q + (i + l.length)))
  | [], i, es => rfl
  | D :: l, i, es => by
    show chL tx q (i + 1) _ (l ++ [C]) = _
    rw [chL_snoc tx q C l (i + 1)]
    rw [show i + 1 + l.length = i + (D :: l).length by simp; omega]
    rfl
theorem chL_miss {tx : Nat → TxR} {q : Nat} {k : ByteArray} : ∀ (l : List Nat) (i : Nat) (es : Array MapEntry), Miss k es → (∀ m, m < l.length → k ≠ (tx (i + m)).k) → Miss k (chL tx q i es l)
  | [], _, _, h, _ => h
  | D :: l, i, es, h, hk => by
    refine chL_miss l (i + 1) _ (h.push (hk 0 (by simp)) _ _) (fun m hm => ?_)
    have := hk (m + 1) (by simpa using hm)
    rwa [show i + (m + 1) = i + 1 + m by omega] at this
structure AppAt (w0 w : World) (tx : Nat → TxR) (S SM q : Nat) (N : Int) (ss : Array MapEntry) (cl : List Nat) : Prop where
  sto : w.heap[S]? = some (.cells (stoC SM N) 137 (0, 0))
  map : w.heap[SM]? = some (.map (chL tx q 0 ss cl) (q + cl.length))
  ch : ∀ m (h : m < cl.length), ChainK w cl[m] N ∧ w0.heap.size ≤ cl[m]
  nd : cl.Nodup
  kb : KB [S, SM] [137] [SM] [] w0 w
set_option maxRecDepth 100000 in
set_option maxHeartbeats 6400000 in
theorem apply_any {w : World} {S SM q n g c : Nat} {N : Int} {ss : Array MapEntry} {tx : Nat → TxR} {ws : List (ByteArray × Value)} (h : BatAt w tx n g c ws) (hS : w.heap[S]? = some (.cells (stoC SM (N - 1)) 137 (0, 0))) (hM : w.heap[SM]? = some (.map ss q)) (hN : 1 ≤ N ∧ N ≤ 1000) (hmiss : ∀ j, j < n → Miss (tx j).k ss) (hk : ∀ j, j < n → ∀ m, m < j → (tx j).k ≠ (tx m).k) :
    Calls Tryz.prog 68 #[.pointer (some ⟨S, 0, none⟩), .agg #[.int .i64 N, .slice (some ⟨g, 0, none⟩) n c]] w fun e w' => e = .returned (.int .i64 0) ∧ ∃ cl, cl.length = n ∧ AppAt w w' tx S SM q N ss cl := by
  obtain ⟨Z, hZ⟩ : ∃ x, x = w.heap.size := ⟨_, rfl⟩
  obtain ⟨w1, hw1⟩ : ∃ x, x = w.alloc (.cells #[.int .i64 N, .slice (some ⟨g, 0, none⟩) n c] 104) := ⟨_, rfl⟩
  have b1 : Below w.heap.size w w1 := by rw [hw1]; exact below_alloc (Below.refl _ _) _
  have g1 : w1.heap[Z]? = some (.cells #[.int .i64 N, .slice (some ⟨g, 0, none⟩) n c] 104 (0, 0)) := by rw [hw1, hZ]; exact heap_alloc_new _ _
  have HR := hid (right_any (h.below b1) hN.1)
  have HB := hid (And.intro h (And.intro b1 (And.intro hS (And.intro hM (And.intro hmiss hk)))))
  have G1 := hid g1
  have W1 := hid (And.intro hw1 hZ)
  have d0 := cell_at g1 (i := 0) (v := .int .i64 N) rfl
  have d1 := cell_at g1 (i := 1) (v := .slice (some ⟨g, 0, none⟩) n c) rfl
  have ew : wrap64 (N - 1 + 1) = N := by unfold wrap64; omega
  clear h hS hM hmiss hk hw1 hZ b1 g1
  go_enter Tryz.func68, Tryz.ntmps68
  go_upto_region 3 with fail
  rw [← W1.out.1, ← W1.out.2]
  go_wp2_with fail
  refine HR.out.mono ?_
  rintro e w2 ⟨rfl, b2⟩
  have B2 := hid (below_then HB.out.2.1 b2)
  replace G1 := hid (below_heap b2 G1.out)
  have S2 := hid (below_heap B2.out HB.out.2.2.1)
  have s1 := cell_at S2.out (i := 1) (v := .int .i64 (N - 1)) rfl
  clear HR b2 d0 d1
  have d0 := cell_at G1.out (i := 0) (v := .int .i64 N) rfl
  go_wp2
  refine start_ (n := 9) (S := fun w' => w'.cell? ⟨Z, 0, none⟩ = some (.int .i64 N) ∧ w'.cell? ⟨S, 1, none⟩ = some (.int .i64 (N - 1))) (ds := []) (tf 9 0) (by kernel_rfl) rfl rfl ⟨d0, s1⟩ (fun hHeld => ?_); refine pure_ (i := 0) (N := some 15) (v := ?_) (a' := ?_) (tf 9 1) rfl rfl (by kernel_rfl) (fun _ _ _ h => h) (Or.inl ⟨by rfl, ?_⟩) ?_ ?_; rotate_left; (· intro w'; go_simp; (with_reducible rfl)); rotate_left; (· simp only [pn_, ew]; rfl); refine pure_ (i := 2) (N := some 17) (v := ?_) (a' := ?_) (tf 9 5) rfl rfl (by kernel_rfl) (fun _ _ _ h => h) (Or.inl ⟨by rfl, ?_⟩) ?_ ?_; rotate_left; (· intro w'; go_simp; (with_reducible rfl)); rotate_left; (· simp only [pn_, ew]; rfl); refine pure_ (i := 3) (N := some 18) (v := ?_) (a' := ?_) (tf 9 13) rfl rfl (by kernel_rfl) (fun _ _ _ h => h) (Or.inl ⟨by rfl, ?_⟩) ?_ ?_; rotate_left; (· intro w'; go_simp; (with_reducible rfl)); rotate_left; (· simp only [pn_, ew]; rfl); refine pure_ (i := 4) (N := some 19) (v := ?_) (a' := ?_) (tf 9 29) rfl rfl (by kernel_rfl) (fun _ _ _ h => h) (Or.inl ⟨by rfl, ?_⟩) ?_ ?_; rotate_left; (· intro w'; go_simp; (with_reducible rfl)); rotate_left; (· simp only [pn_, ew]; rfl); refine take_ (i := 1) (N := some 16) (v := ?_) (a' := ?_) (tf 9 31) rfl rfl (by kernel_rfl) (fun _ _ _ h => h) (Or.inl ⟨by rfl, ?_⟩) hHeld ?_ ?_; rotate_left; (· rintro w' ⟨s0, s1⟩; go_simp; (with_reducible rfl)); rotate_left; (· simp only [pn_, ew]; rfl); refine take_ (i := 5) (N := some 20) (v := ?_) (a' := ?_) (tf 9 63) rfl rfl (by kernel_rfl) (fun _ _ _ h => h) (Or.inl ⟨by rfl, ?_⟩) hHeld ?_ ?_; rotate_left; (· rintro w' ⟨s0, s1⟩; go_simp; (with_reducible rfl)); rotate_left; (· simp only [pn_, ew]; rfl); refine pure_ (i := 6) (N := some 21) (v := ?_) (a' := ?_) (tf 9 127) rfl rfl (by kernel_rfl) (fun _ _ _ h => h) (Or.inl ⟨by rfl, ?_⟩) ?_ ?_; rotate_left; (· intro w'; go_simp; (with_reducible rfl)); rotate_left; (· simp only [pn_, ew]; rfl); refine pure_ (i := 7) (N := some 22) (v := ?_) (a' := ?_) (tf 9 255) rfl rfl (by kernel_rfl) (fun _ _ _ h => h) (Or.inl ⟨by rfl, ?_⟩) ?_ ?_; rotate_left; (· intro w'; go_simp; (with_reducible rfl)); rotate_left; (· simp only [pn_, ew]; rfl); refine pure_ (i := 8) (N := some 14) (v := ?_) (a' := ?_) (tf 9 511) rfl rfl (by kernel_rfl) (fun _ _ _ h => h) (Or.inl ⟨by rfl, ?_⟩) ?_ ?_; rotate_left; (· intro w'; go_simp; (with_reducible rfl)); rotate_left; (· simp only [pn_, ew]; rfl); refine done_ (by kernel_rfl) ?_
  have ew2 : wrap64 N = N := by unfold wrap64; omega
  rw [ew2]
  clear ew ew2
  obtain ⟨w3, hw3⟩ : ∃ x, x = (w2.setCell ⟨S, 1, none⟩ (.int .i64 N)).drew := ⟨_, rfl⟩
  have g3 : w3.heap[S]? = some (.cells (stoC SM N) 137 (0, 0)) := by rw [hw3]; show (w2.setCell ⟨S, 1, none⟩ (.int .i64 N)).heap[S]? = _; rw [heap_set S2.out]; rfl
  have kd : KB [S, SM] [137] [SM] [] w2 w3 := by rw [hw3]; exact ((KB.refl _ _ _ _ w2).set S2.out (.head _) (.head _) _).drew
  have kd' : KT [137] [] [] w2 w3 := by rw [hw3]; exact ((KT.refl _ _ _ w2).set S2.out (.head _) _).drew
  have k3 : KB [S, SM] [137] [SM] [] w w3 := (KB.of_below B2.out).trans kd
  have k3' : KT [137] [] [] w w3 := (KT.of_below B2.out).trans kd'
  have zZ := hid (And.intro (kd'.cells G1.out (by decide)) (lt_of_block G1.out))
  have A0 := hid (show AppAt w w3 tx S SM q N ss [] from ⟨g3, k3'.map HB.out.2.2.2.1 (by simp), fun m h => by simp at h, by simp, k3⟩)
  have f1 := free_at S2.out 1
  have W3 := hid hw3
  clear hw3 g3 kd kd' k3 k3' B2
  go_upto_region 8 with fail
  rw [← W3.out]
  have d1 := cell_at zZ.out.1 (i := 1) (v := .slice (some ⟨g, 0, none⟩) n c) rfl
  clear d0 s1 f1
  obtain ⟨hc1, hc2⟩ := HB.out.1.cap
  have n1 := HB.out.1.n1
  go_wp2
  try simp only [bne_self_eq_false]
  go_loopw [31] (fun i wr => ∃ j : Nat, j ≤ n ∧ i = .int .i64 j ∧ Hid (∃ cl : List Nat, cl.length = j ∧ AppAt w wr tx S SM q N ss cl ∧ wr.heap[Z]? = some (.cells #[.int .i64 N, .slice (some ⟨g, 0, none⟩) n c] 104 (0, 0)))) (fun i _ => n - (intOf i).toNat)
  case atStart => exact ⟨0, by omega, rfl, hid ⟨[], rfl, A0.out, zZ.out.1⟩⟩
  case round =>
    clear d1 A0
    obtain ⟨j, hj, rfl, hh⟩ := hrel
    obtain ⟨cl, hcl⟩ := hh.out
    have CL := hid hcl
    clear hcl hh
    by_cases hlt : j < n
    · have t1 : decide ((j : Int) < (n : Int)) = true := by simp; omega
      have BA := HB.out.1.keeps CL.out.2.1.kb.1 (by decide) (fun _ _ _ _ h => by cases h)
      obtain ⟨A1, c1, q0, q1, q2, o1⟩ := BA.at2 hlt
      obtain ⟨S8, hS8⟩ : ∃ S, S = wr.heap.size := ⟨_, rfl⟩
      obtain ⟨rl, hrl⟩ : ∃ x, x = (tx j).row.length := ⟨_, rfl⟩
      obtain ⟨kk, hkk⟩ : ∃ x, x = (tx j).k := ⟨_, rfl⟩
      have rlen := BA.lens j hlt
      rw [← hrl] at q1 rlen o1
      rw [← hkk] at q0
      obtain ⟨w8, hw8⟩ : ∃ x, x = wr.alloc (.cells #[.string kk, .slice A1 rl c1, .bool false] 209) := ⟨_, rfl⟩
      have b8 : Below wr.heap.size wr w8 := by rw [hw8]; exact below_alloc (Below.refl _ _) _
      have g8 : w8.heap[S8]? = some (.cells #[.string kk, .slice A1 rl c1, .bool false] 209 (0, 0)) := by rw [hw8, hS8]; exact heap_alloc_new _ _
      have MS : Miss kk (chL tx q 0 ss cl) := by
        rw [hkk]
        exact chL_miss cl 0 ss (HB.out.2.2.2.2.1 j hlt) (fun m hm => by rw [Nat.zero_add]; exact HB.out.2.2.2.2.2 j hlt m (by rw [← CL.out.1]; exact hm))
      have gS := below_heap b8 CL.out.2.1.sto
      have gM := below_heap b8 CL.out.2.1.map
      have LK : ∀ w' : World, w'.heap[SM]? = some (.map (chL tx q 0 ss cl) (q + cl.length)) → (Instr.lookup 135 (.map (some SM)) (.string kk) false).run Tryz.prog w' = .ok (.pointer none) w' := fun w' h => (look_miss (k := .string kk) Tryz.underlying135 Tryz.underlying9 trivial h (zeroChain _) MS.find).1
      have P8 := hid (And.intro gS (And.intro gM (And.intro g8 (And.intro b8 (And.intro o1 (And.intro hkk (And.intro hrl (And.intro rlen MS))))))))
      have W8 := hid (And.intro hw8 hS8)
      have s0 := cell_at gS (i := 0) (v := .map (some SM)) rfl
      have m0 := cell_at g8 (i := 0) rfl
      have lk := LK w8 gM
      clear hw8 hS8 b8 g8 hrl hkk BA rlen o1 MS gS gM
      go_upto_region 11 with fail
      rw [← W8.out.1, ← W8.out.2]
      refine start_ (n := 8) (S := fun w' => w'.cell? ⟨S, 0, none⟩ = some (.map (some SM)) ∧ w'.cell? ⟨S8, 0, none⟩ = some (.string kk) ∧ (Instr.lookup 135 (.map (some SM)) (.string kk) false).run Tryz.prog w' = .ok (.pointer none) w') (ds := []) (tf 8 0) (by kernel_rfl) rfl rfl ⟨s0, m0, (LK _ (show w8.drew.heap[SM]? = _ from P8.out.2.1))⟩ (fun hHeld => ?_); refine pure_ (i := 0) (N := some 35) (v := ?_) (a' := ?_) (tf 8 1) rfl rfl (by kernel_rfl) (fun _ _ _ h => h) (Or.inl ⟨by rfl, ?_⟩) ?_ ?_; rotate_left; (· intro w'; go_simp; (with_reducible rfl)); rotate_left; (· simp only [pn_]; rfl); refine pure_ (i := 1) (N := some 36) (v := ?_) (a' := ?_) (tf 8 3) rfl rfl (by kernel_rfl) (fun _ _ _ h => h) (Or.inl ⟨by rfl, ?_⟩) ?_ ?_; rotate_left; (· intro w'; go_simp; (with_reducible rfl)); rotate_left; (· simp only [pn_]; rfl); refine pure_ (i := 2) (N := some 37) (v := ?_) (a' := ?_) (tf 8 7) rfl rfl (by kernel_rfl) (fun _ _ _ h => h) (Or.inl ⟨by rfl, ?_⟩) ?_ ?_; rotate_left; (· intro w'; go_simp; (with_reducible rfl)); rotate_left; (· simp only [pn_]; rfl); refine pure_ (i := 4) (N := some 39) (v := ?_) (a' := ?_) (tf 8 23) rfl rfl (by kernel_rfl) (fun _ _ _ h => h) (Or.inl ⟨by rfl, ?_⟩) ?_ ?_; rotate_left; (· intro w'; go_simp; (with_reducible rfl)); rotate_left; (· simp only [pn_]; rfl); refine take_ (i := 3) (N := some 38) (v := ?_) (a' := ?_) (tf 8 31) rfl rfl (by kernel_rfl) (fun _ _ _ h => h) (Or.inl ⟨by rfl, ?_⟩) hHeld ?_ ?_; rotate_left; (· rintro w' ⟨s0, s1, s2⟩; go_simp; (with_reducible rfl)); rotate_left; (· simp only [pn_]; rfl); refine take_ (i := 5) (N := some 40) (v := ?_) (a' := ?_) (tf 8 63) rfl rfl (by kernel_rfl) (fun _ _ _ h => h) (Or.inl ⟨by rfl, ?_⟩) hHeld ?_ ?_; rotate_left; (· rintro w' ⟨s0, s1, s2⟩; go_simp; (with_reducible rfl)); rotate_left; (· simp only [pn_]; rfl); refine take_ (i := 6) (N := some 41) (v := ?_) (a' := ?_) (tf 8 127) rfl rfl (by kernel_rfl) (fun _ _ _ h => h) (Or.inl ⟨by rfl, ?_⟩) hHeld ?_ ?_; rotate_left; (· rintro w' ⟨s0, s1, s2⟩; go_simp; (with_reducible rfl)); rotate_left; (· simp only [pn_]; rfl); refine pure_ (i := 7) (N := some 42) (v := ?_) (a' := ?_) (tf 8 255) rfl rfl (by kernel_rfl) (fun _ _ _ h => h) (Or.inl ⟨by rfl, ?_⟩) ?_ ?_; rotate_left; (· intro w'; go_simp; (with_reducible rfl)); rotate_left; (· simp only [pn_]; rfl); refine done_ (by kernel_rfl) ?_
      obtain ⟨w9, hw9⟩ : ∃ x, x = w8.drew := ⟨_, rfl⟩
      have b9 : Below w8.heap.size w8 w9 := by rw [hw9]; exact (Below.refl _ _).drew
      rw [← hw9]
      have P9 := hid (And.intro (below_heap b9 P8.out.1) (And.intro (below_heap b9 P8.out.2.1) (And.intro (below_heap b9 P8.out.2.2.1) (below_then P8.out.2.2.2.1 b9))))
      have MS := P8.out.2.2.2.2.2.2.2.2
      replace s0 := cell_at P9.out.1 (i := 0) (v := .map (some SM)) rfl
      replace m0 := cell_at P9.out.2.2.1 (i := 0) rfl
      obtain ⟨C, hC⟩ : ∃ x, x = w9.heap.size := ⟨_, rfl⟩
      have HC := hid (cnew_any (w := w9.drew))
      rw [show w9.drew.heap.size = C from hC.symm] at HC
      have C9 := hid hC
      clear lk LK b9 hw9 hC
      go_wp2
      refine start_ (n := 8) (S := fun w' => w'.cell? ⟨S, 0, none⟩ = some (.map (some SM)) ∧ w'.cell? ⟨S8, 0, none⟩ = some (.string kk)) (ds := [7]) (tf 8 0) (by kernel_rfl) rfl rfl ⟨s0, m0⟩ (fun hHeld => ?_); refine pure_ (i := 0) (N := some 43) (v := ?_) (a' := ?_) (tf 8 1) rfl rfl (by kernel_rfl) (fun _ _ _ h => h) (Or.inl ⟨by rfl, ?_⟩) ?_ ?_; rotate_left; (· intro w'; go_simp; (with_reducible rfl)); rotate_left; (· simp only [pn_]; rfl); refine pure_ (i := 1) (N := some 44) (v := ?_) (a' := ?_) (tf 8 3) rfl rfl (by kernel_rfl) (fun _ _ _ h => h) (Or.inl ⟨by rfl, ?_⟩) ?_ ?_; rotate_left; (· intro w'; go_simp; (with_reducible rfl)); rotate_left; (· simp only [pn_]; rfl); refine pure_ (i := 2) (N := some 45) (v := ?_) (a' := ?_) (tf 8 7) rfl rfl (by kernel_rfl) (fun _ _ _ h => h) (Or.inl ⟨by rfl, ?_⟩) ?_ ?_; rotate_left; (· intro w'; go_simp; (with_reducible rfl)); rotate_left; (· simp only [pn_]; rfl); refine pure_ (i := 4) (N := some 47) (v := ?_) (a' := ?_) (tf 8 23) rfl rfl (by kernel_rfl) (fun _ _ _ h => h) (Or.inl ⟨by rfl, ?_⟩) ?_ ?_; rotate_left; (· intro w'; go_simp; (with_reducible rfl)); rotate_left; (· simp only [pn_]; rfl); refine take_ (i := 3) (N := some 46) (v := ?_) (a' := ?_) (tf 8 31) rfl rfl (by kernel_rfl) (fun _ _ _ h => h) (Or.inl ⟨by rfl, ?_⟩) hHeld ?_ ?_; rotate_left; (· rintro w' ⟨s0, s1⟩; go_simp; (with_reducible rfl)); rotate_left; (· simp only [pn_]; rfl); refine take_ (i := 5) (N := some 48) (v := ?_) (a' := ?_) (tf 8 63) rfl rfl (by kernel_rfl) (fun _ _ _ h => h) (Or.inl ⟨by rfl, ?_⟩) hHeld ?_ ?_; rotate_left; (· rintro w' ⟨s0, s1⟩; go_simp; (with_reducible rfl)); rotate_left; (· simp only [pn_]; rfl); refine one_ (i := 6) (N := some 49) (tf 8 127) rfl rfl (by kernel_rfl) (by decide) (fun K hK => ?_); refine goes_ Tryz.func120 (by kernel_rfl) rfl #[] (by rfl) rfl rfl (by simp only [List.map_toArray, List.map_cons, List.map_nil]) ?_; (with_reducible refine (HC.out).mono ?_); rintro e w10 ⟨rfl, gC, bC⟩; refine ⟨_, rfl, ?_⟩; refine hK.out _ _ ⟨below_cell (show Below w9.drew.heap.size w9.drew w10 from (by have h := bC; rw [C9.out] at h; exact h)) hHeld.1, below_cell (show Below w9.drew.heap.size w9.drew w10 from (by have h := bC; rw [C9.out] at h; exact h)) hHeld.2⟩ (fun hHeld => ?_); clear hK K; refine norm_ (a' := ?_) ?_ ?_; rotate_left; (· show Act.put _ (some 49) _ = _; simp only [pn_]; rfl); refine last_ (i := 7) (N := none) (tf 8 255) rfl rfl (by kernel_rfl) (by decide) (fun K hK => ?_); refine step_put rfl (.tmp 46) (.tmp 48) (.tmp 49) 135 rfl rfl SM _ _ (.string kk) (.pointer (some ⟨C, 0, none⟩)) rfl rfl rfl (run_put (k := .string kk) Tryz.underlying135 Tryz.underlying9 trivial (below_heap (show Below w9.drew.heap.size w9.drew w10 from (by have h := bC; rw [C9.out] at h; exact h)) (show w9.drew.heap[SM]? = _ from P9.out.2.1)) MS.find _) ?_; intro w11 p1 p2; refine hK.out _ _ ?_; clear hK K; refine done_ (by kernel_rfl) ?_
      have bC' : Below w9.heap.size w9 w10 := (Below.refl _ w9).drew.trans (by have h := bC; rw [C9.out] at h; exact h)
      have gM10 := below_heap bC' P9.out.2.1
      have k11 : KT [] [SM] [] w10 w11 := (KT.refl [] [SM] [] w10).of_map p2 ⟨_, _, gM10⟩ (.head _)
      have P11 := hid (show w11.heap[S]? = some (.cells (stoC SM N) 137 (0, 0)) ∧ w11.heap[SM]? = some (.map ((chL tx q 0 ss cl).push (entS kk (.pointer (some ⟨C, 0, none⟩)) (q + cl.length))) (q + cl.length + 1)) ∧ w11.heap[S8]? = some (.cells #[.string kk, .slice A1 rl c1, .bool false] 209 (0, 0)) ∧ w11.heap[C]? = some (.cells #[.slice none 0 0, .int .i64 0] 293 (0, 0)) ∧ KT [] [SM] [] wr w11 ∧ wr.heap.size ≤ C ∧ KB [S, SM] [] [SM] [] wr w11 from
        ⟨k11.cells (below_heap bC' P9.out.1) (by decide), p1, k11.cells (below_heap bC' P9.out.2.2.1) (by decide), k11.cells gC (by decide), (KT.of_below (below_then P9.out.2.2.2 bC')).trans k11, by rw [C9.out]; exact P9.out.2.2.2.size, (KB.of_below (below_then P9.out.2.2.2 bC')).trans ((KB.refl [S, SM] [] [SM] [] w10).of_map p2 ⟨_, _, gM10⟩ (.head _) (by simp))⟩)
      have LK2 : ∀ w' : World, w'.heap[SM]? = some (.map ((chL tx q 0 ss cl).push (entS kk (.pointer (some ⟨C, 0, none⟩)) (q + cl.length))) (q + cl.length + 1)) → (Instr.lookup 135 (.map (some SM)) (.string kk) false).run Tryz.prog w' = .ok (.pointer (some ⟨C, 0, none⟩)) w' := fun w' h => (look_hit (k := .string kk) Tryz.underlying135 Tryz.underlying9 trivial h (by rw [Array.toList_push]; exact find_last _ _ _ 0 MS)).1
      have s0 := cell_at P11.out.1 (i := 0) (v := .map (some SM)) rfl
      have m0 := cell_at P11.out.2.2.1 (i := 0) rfl
      have m1 := cell_at P11.out.2.2.1 (i := 1) rfl
      have m2 := cell_at P11.out.2.2.1 (i := 2) rfl
      clear p1 p2 gC bC bC' gM10 k11 MS HC P9
      have KW := hid (CL.out.2.1.kb.1.then P11.out.2.2.2.2.1 (fun _ h => by cases h) (fun _ h _ => h) (fun _ h _ => h))
      have BA11 := HB.out.1.keeps KW.out.drew (by decide) (fun _ _ _ _ h => by cases h)
      have OR := P8.out.2.2.2.2.1 _ BA11
      have ZZ := hid (P11.out.2.2.2.2.1.cells CL.out.2.2 (by decide))
      have z0 := cell_at ZZ.out (i := 0) (v := .int .i64 N) rfl
      have HP := hid (cput_any (w := w11.drew) (b := C) (x := N) (row := (tx j).row) (n := rl) (c := c1) (A := A1) P11.out.2.2.2.1 (by omega) P8.out.2.2.2.2.2.2.1.symm (by obtain ⟨A', c', e', b'⟩ := OR.bs; rw [← P8.out.2.2.2.2.2.2.1] at e'; cases e'; exact b') (by have := P8.out.2.2.2.2.2.2.2.1; omega))
      clear BA11 OR q0 q1 q2
      go_upto_region 13 with fail
      refine start_ (n := 14) (S := fun w' => w'.cell? ⟨S, 0, none⟩ = some (.map (some SM)) ∧ w'.cell? ⟨S8, 0, none⟩ = some (.string kk) ∧ (Instr.lookup 135 (.map (some SM)) (.string kk) false).run Tryz.prog w' = .ok (.pointer (some ⟨C, 0, none⟩)) w' ∧ w'.cell? ⟨Z, 0, none⟩ = some (.int .i64 N) ∧ w'.cell? ⟨S8, 1, none⟩ = some (.slice A1 rl c1) ∧ w'.cell? ⟨S8, 2, none⟩ = some (.bool false)) (ds := [13]) (tf 14 0) (by kernel_rfl) rfl rfl ⟨s0, m0, (LK2 _ (show w11.drew.heap[SM]? = _ from P11.out.2.1)), z0, m1, m2⟩ (fun hHeld => ?_); refine pure_ (i := 0) (N := some 50) (v := ?_) (a' := ?_) (tf 14 1) rfl rfl (by kernel_rfl) (fun _ _ _ h => h) (Or.inl ⟨by rfl, ?_⟩) ?_ ?_; rotate_left; (· intro w'; go_simp; (with_reducible rfl)); rotate_left; (· simp only [pn_]; rfl); refine pure_ (i := 1) (N := some 51) (v := ?_) (a' := ?_) (tf 14 3) rfl rfl (by kernel_rfl) (fun _ _ _ h => h) (Or.inl ⟨by rfl, ?_⟩) ?_ ?_; rotate_left; (· intro w'; go_simp; (with_reducible rfl)); rotate_left; (· simp only [pn_]; rfl); refine pure_ (i := 2) (N := some 52) (v := ?_) (a' := ?_) (tf 14 7) rfl rfl (by kernel_rfl) (fun _ _ _ h => h) (Or.inl ⟨by rfl, ?_⟩) ?_ ?_; rotate_left; (· intro w'; go_simp; (with_reducible rfl)); rotate_left; (· simp only [pn_]; rfl); refine pure_ (i := 4) (N := some 54) (v := ?_) (a' := ?_) (tf 14 23) rfl rfl (by kernel_rfl) (fun _ _ _ h => h) (Or.inl ⟨by rfl, ?_⟩) ?_ ?_; rotate_left; (· intro w'; go_simp; (with_reducible rfl)); rotate_left; (· simp only [pn_]; rfl); refine pure_ (i := 7) (N := some 57) (v := ?_) (a' := ?_) (tf 14 151) rfl rfl (by kernel_rfl) (fun _ _ _ h => h) (Or.inl ⟨by rfl, ?_⟩) ?_ ?_; rotate_left; (· intro w'; go_simp; (with_reducible rfl)); rotate_left; (· simp only [pn_]; rfl); refine pure_ (i := 9) (N := some 59) (v := ?_) (a' := ?_) (tf 14 663) rfl rfl (by kernel_rfl) (fun _ _ _ h => h) (Or.inl ⟨by rfl, ?_⟩) ?_ ?_; rotate_left; (· intro w'; go_simp; (with_reducible rfl)); rotate_left; (· simp only [pn_]; rfl); refine pure_ (i := 11) (N := some 61) (v := ?_) (a' := ?_) (tf 14 2711) rfl rfl (by kernel_rfl) (fun _ _ _ h => h) (Or.inl ⟨by rfl, ?_⟩) ?_ ?_; rotate_left; (· intro w'; go_simp; (with_reducible rfl)); rotate_left; (· simp only [pn_]; rfl); refine take_ (i := 3) (N := some 53) (v := ?_) (a' := ?_) (tf 14 2719) rfl rfl (by kernel_rfl) (fun _ _ _ h => h) (Or.inl ⟨by rfl, ?_⟩) hHeld ?_ ?_; rotate_left; (· rintro w' ⟨s0, s1, s2, s3, s4, s5⟩; go_simp; (with_reducible rfl)); rotate_left; (· simp only [pn_]; rfl); refine take_ (i := 5) (N := some 55) (v := ?_) (a' := ?_) (tf 14 2751) rfl rfl (by kernel_rfl) (fun _ _ _ h => h) (Or.inl ⟨by rfl, ?_⟩) hHeld ?_ ?_; rotate_left; (· rintro w' ⟨s0, s1, s2, s3, s4, s5⟩; go_simp; (with_reducible rfl)); rotate_left; (· simp only [pn_]; rfl); refine take_ (i := 6) (N := some 56) (v := ?_) (a' := ?_) (tf 14 2815) rfl rfl (by kernel_rfl) (fun _ _ _ h => h) (Or.inl ⟨by rfl, ?_⟩) hHeld ?_ ?_; rotate_left; (· rintro w' ⟨s0, s1, s2, s3, s4, s5⟩; go_simp; (with_reducible rfl)); rotate_left; (· simp only [pn_]; rfl); refine take_ (i := 8) (N := some 58) (v := ?_) (a' := ?_) (tf 14 3071) rfl rfl (by kernel_rfl) (fun _ _ _ h => h) (Or.inl ⟨by rfl, ?_⟩) hHeld ?_ ?_; rotate_left; (· rintro w' ⟨s0, s1, s2, s3, s4, s5⟩; go_simp; (with_reducible rfl)); rotate_left; (· simp only [pn_]; rfl); refine take_ (i := 10) (N := some 60) (v := ?_) (a' := ?_) (tf 14 4095) rfl rfl (by kernel_rfl) (fun _ _ _ h => h) (Or.inl ⟨by rfl, ?_⟩) hHeld ?_ ?_; rotate_left; (· rintro w' ⟨s0, s1, s2, s3, s4, s5⟩; go_simp; (with_reducible rfl)); rotate_left; (· simp only [pn_]; rfl); refine take_ (i := 12) (N := some 62) (v := ?_) (a' := ?_) (tf 14 8191) rfl rfl (by kernel_rfl) (fun _ _ _ h => h) (Or.inl ⟨by rfl, ?_⟩) hHeld ?_ ?_; rotate_left; (· rintro w' ⟨s0, s1, s2, s3, s4, s5⟩; go_simp; (with_reducible rfl)); rotate_left; (· simp only [pn_]; rfl); refine last_ (i := 13) (N := some 63) (tf 14 16383) rfl rfl (by kernel_rfl) (by decide) (fun K hK => ?_); refine goes_ Tryz.func121 (by kernel_rfl) rfl #[.pointer (some ⟨C, 0, none⟩), .int .i64 N, .slice A1 rl c1, .bool false] (by rfl) rfl rfl (by simp only [List.map_toArray, List.map_cons, List.map_nil]; rfl) ?_; (with_reducible refine (HP.out).mono ?_); rintro e w12 ⟨rfl, ck, kc⟩; refine ⟨_, rfl, ?_⟩; refine hK.out _ _ ?_; clear hK K; refine norm_ (a' := ?_) ?_ ?_; rotate_left; (· show Act.put _ (some 63) _ = _; simp only [pn_]; rfl); refine done_ (by kernel_rfl) ?_
      have cT : ∀ (k : Nat) (cs : Array Value) (t : TypeId), w11.heap[k]? = some (.cells cs t (0, 0)) → t ≠ 293 → w12.heap[k]? = some (.cells cs t (0, 0)) := fun k cs t hk ht => kc.heap (show w11.drew.heap[k]? = _ from hk) (fun e => by
        subst e
        rw [P11.out.2.2.2.1] at hk
        injection hk with hk
        injection hk with _ hk
        exact ht hk.symm)
      have hCl := P11.out.2.2.2.2.2.1
      have hwr : w.heap.size ≤ wr.heap.size := CL.out.2.1.kb.1.size
      have FF : ∃ cl' : List Nat, cl'.length = j + 1 ∧ AppAt w w12 tx S SM q N ss cl' ∧ w12.heap[Z]? = some (.cells #[.int .i64 N, .slice (some ⟨g, 0, none⟩) n c] 104 (0, 0)) := by
        refine ⟨cl ++ [C], by rw [List.length_append, CL.out.1]; rfl, ⟨cT _ _ _ P11.out.1 (by decide), ?_, ?_, ?_, ?_⟩, cT _ _ _ ZZ.out (by decide)⟩
        · have hm : w12.heap[SM]? = some (.map ((chL tx q 0 ss cl).push (entS kk (.pointer (some ⟨C, 0, none⟩)) (q + cl.length))) (q + cl.length + 1)) := kc.heap (show w11.drew.heap[SM]? = _ from P11.out.2.1) (fun e => by
            have h1 := P11.out.2.1
            rw [e, P11.out.2.2.2.1] at h1
            cases h1)
          rw [hm, chL_snoc, Nat.zero_add, CL.out.1, ← P8.out.2.2.2.2.2.1, List.length_append, CL.out.1]
          rfl
        · intro m hm
          by_cases hlm : m < cl.length
          · rw [List.getElem_append_left hlm]
            obtain ⟨h1, h2⟩ := CL.out.2.1.ch m hlm
            have h3 := (h1.keeps P11.out.2.2.2.2.1 (by decide)).below (Below.refl _ _).drew
            exact ⟨h3.other kc ⟨_, P11.out.2.2.2.1⟩ (by have := h1.lt; omega), h2⟩
          · have : m = cl.length := by simp at hm; omega
            subst this
            rw [List.getElem_append_right (Nat.le_refl _)]
            simp only [Nat.sub_self, List.getElem_cons_zero]
            exact ⟨ck, by omega⟩
        · rw [List.nodup_append]
          refine ⟨CL.out.2.1.nd, by simp, fun a ha b hb => ?_⟩
          simp at hb
          subst hb
          obtain ⟨m, hm, rfl⟩ := List.getElem_of_mem ha
          have := (CL.out.2.1.ch m hm).1.lt
          omega
        · refine ⟨Keeps.then (show Keeps _ w w11.drew from KW.out.drew) kc (fun k hk e => by omega), fun B hB q => ?_⟩
          have h1 := (CL.out.2.1.kb.2 B hB q).trans ((P11.out.2.2.2.2.2.2.drew).2 B (by omega) q)
          exact h1.trans (Keeps.keepsB kc (fun k e => by omega) (Nat.le_trans hB h1.size))
      have HF := hid FF
      clear FF cT ck kc HP KW s0 m0 m1 m2 z0 LK2 P11 ZZ hCl hwr
      go_wp2
      go_roundw
      case rel => exact ⟨j + 1, by omega, by go_num, HF⟩
      case measure => simp [intOf]; omega
    · obtain rfl : j = n := by omega
      have t1 : decide ((j : Int) < (j : Int)) = false := by simp
      have HF := hid (show ∃ cl : List Nat, cl.length = j ∧ AppAt w wr tx S SM q N ss cl from ⟨cl, CL.out.1, CL.out.2.1⟩)
      clear CL
      go_wp2
      go_ret
      exact ⟨rfl, HF.out⟩
end Go.Proofs.YtnidgljkbmceaaaGreatDoor
