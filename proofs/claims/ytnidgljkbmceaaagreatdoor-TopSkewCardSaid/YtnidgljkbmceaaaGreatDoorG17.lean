/- TopSkew's walks: a batch is published. -/
import Derived.Test.YtnidgljkbmceaaaGreatDoorPn
import Derived.Test.YtnidgljkbmceaaaGreatDoorG16
import Derived.Test.YtnidgljkbmceaaaGreatDoorG06
import Derived.Test.YtnidgljkbmceaaaGreatDoorG05
set_option linter.unusedVariables false
set_option linter.unusedSimpArgs false
namespace Go.Proofs.YtnidgljkbmceaaaGreatDoor
open Go.RowKit PrintLast Go.Maps Go.MapKept
def TabB (B0 : Nat) (w : World) : Prop := B0 ≤ w.heap.size ∧ ∀ w', Below B0 w w' → Table w'
theorem TabB.at_ {B0 : Nat} {w : World} (h : TabB B0 w) : Table w := h.2 w (Below.refl _ _)
theorem TabB.low {B0 : Nat} {w w' : World} (h : TabB B0 w) (hb : Below B0 w w') : TabB B0 w' := ⟨Nat.le_trans h.1 hb.size, fun w2 h2 => h.2 w2 (hb.trans h2)⟩
theorem TabB.below {B0 : Nat} {w w' : World} (h : TabB B0 w) (hb : Below w.heap.size w w') : TabB B0 w' := h.low (hb.mono h.1)
theorem TabB.kb {B0 : Nat} {w w' : World} {bs : List Nat} {ts : List TypeId} {ms rs : List Nat} (h : TabB B0 w) (hk : KB bs ts ms rs w w') (hm : ∀ b ∈ bs, B0 ≤ b) : TabB B0 w' := h.low (hk.2 B0 h.1 hm)
def IdsAt (w : World) (I n : Nat) (tx : Nat → TxR) : Prop := ∃ cs, w.heap[I]? = some (.cells cs 3 (0, 0)) ∧ ∀ j, j < n → cs[j]? = some (.int .i64 (tx j).id)
theorem IdsAt.keeps {w w' : World} {I n : Nat} {tx : Nat → TxR} {ts : List TypeId} {ms rs : List Nat} (h : IdsAt w I n tx) (hk : KT ts ms rs w w') (ht : 3 ∉ ts) : IdsAt w' I n tx := by
  obtain ⟨cs, h1, h2⟩ := h
  exact ⟨cs, hk.cells h1 ⟨ht, by decide⟩, h2⟩
theorem IdsAt.get {w : World} {I n : Nat} {tx : Nat → TxR} (h : IdsAt w I n tx) {j : Nat} (hj : j < n) : w.cell? ⟨I, j, none⟩ = some (.int .i64 (tx j).id) := by
  obtain ⟨cs, h1, h2⟩ := h
  exact cell_at h1 (h2 j hj)
set_option maxRecDepth 100000 in
set_option maxHeartbeats 12800000 in
theorem publish_any {w : World} {L Tb tc S O R ns rc SM q n g c N B0 I ci cl : Nat} {next : Int} {tv : Option Addr} {tx : Nat → TxR} {ws : List (ByteArray × Value)} {ss : Array MapEntry} {Es : Nat → Array MapEntry} {co : List Nat} {TI : Nat → World → Option Addr → Prop} {TF : World → Option Addr → Prop}
    (hL : w.heap[L]? = some (.cells (ledC Tb tc S O next R ns rc) 95 (0, 0))) (hSt : StAt w R ns rc tv) (h4 : ns ≤ 4) (h : BatAt w tx n g c ws) (hS : w.heap[S]? = some (.cells (stoC SM ((N : Int) - 1)) 137 (0, 0))) (hM : w.heap[SM]? = some (.map ss q)) (hN : 1 ≤ N ∧ N ≤ 1000)
    (hmiss : ∀ j, j < n → Miss (tx j).k ss) (hk : ∀ j, j < n → ∀ m, m < j → (tx j).k ≠ (tx m).k) (hO : w.heap[O]? = some (.map (Es 0) cl)) (hOS : O ≠ SM)
    (hdel : ∀ j, j < n → ∃ i v, Instr.findNow (.int .i64) (.int .i64 (tx j).id) (Es j).toList 0 = some (some (i, v)) ∧ Es (j + 1) = (Es j).eraseIdxIfInBounds i) (hI : IdsAt w I n tx) (hci : n ≤ ci ∧ ci ≤ 9223372036854775807)
    (hT : TabB B0 w) (hB0 : B0 ≤ L ∧ B0 ≤ R ∧ B0 ≤ S ∧ B0 ≤ SM)
    (hP : ∀ w1, KT [137] [SM] [] w w1 → Puts tx n tv w1 TI TF) (hTF : ∀ w1 w2 v, TF w1 v → KT [95, 293] [O] [] w1 w2 → TF w2 v)
    (hbel : ∀ w5 R' ns' rc', w5.heap[L]? = some (.cells (ledC Tb tc S O next R' ns' rc') 95 (0, 0)) → w5.heap[S]? = some (.cells (stoC SM (N : Int)) 137 (0, 0)) → w5.heap[O]? = some (.map (Es n) cl) → KT [95, 89, 137] [O, SM] [] w w5 →
      Calls Tryz.prog 71 #[.pointer (some ⟨L, 0, none⟩)] w5 fun e w' => (∃ v, e = .returned (.int .i64 v)) ∧ Below w5.heap.size w5 w')
    (htrim : ∀ w6 ch x, ch.length = n → w6.heap[S]? = some (.cells (stoC SM (N : Int)) 137 (0, 0)) → w6.heap[SM]? = some (.map (chL tx q 0 ss ch) (q + ch.length)) → (∀ m (h : m < ch.length), ChainK w6 ch[m] (N : Int) ∧ w.heap.size ≤ ch[m]) → ch.Nodup → KT [95, 89, 137] [O, SM] [] w w6 →
      Calls Tryz.prog 70 #[.pointer (some ⟨S, 0, none⟩), .int .i64 x] w6 fun e w' => e = .returned (.int .i64 0) ∧ (∀ m (h : m < ch.length), ChainK w' ch[m] (N : Int)) ∧ KB (co ++ ch) [293] [] [] w6 w') :
    Calls Tryz.prog 37 #[.pointer (some ⟨L, 0, none⟩), .agg #[.int .i64 (N : Int), .slice (some ⟨g, 0, none⟩) n c], .slice (some ⟨I, 0, none⟩) n ci] w fun e w' => e = .returned (.int .i64 0) ∧ ∃ R' rc' tv' ch, ch.length = n ∧ w'.heap[L]? = some (.cells (ledC Tb tc S O next R' (ns + 1) rc') 95 (0, 0)) ∧ StAt w' R' (ns + 1) rc' tv' ∧ TF w' tv' ∧ w.heap.size ≤ R' ∧
      w'.heap[S]? = some (.cells (stoC SM (N : Int)) 137 (0, 0)) ∧ w'.heap[SM]? = some (.map (chL tx q 0 ss ch) (q + ch.length)) ∧ (∀ m (h : m < ch.length), ChainK w' ch[m] (N : Int) ∧ w.heap.size ≤ ch[m]) ∧ w'.heap[O]? = some (.map (Es n) cl) ∧
      KB ([L, R, S, SM, O] ++ co) [95, 89, 137, 293] [O, SM] [] w w' := by
  obtain ⟨Z, hZ⟩ : ∃ x, x = w.heap.size := ⟨_, rfl⟩
  obtain ⟨w1, hw1⟩ : ∃ x, x = w.alloc (.cells #[.int .i64 (N : Int), .slice (some ⟨g, 0, none⟩) n c] 104) := ⟨_, rfl⟩
  have b1 : Below w.heap.size w w1 := by rw [hw1]; exact below_alloc (Below.refl _ _) _
  have g1 : w1.heap[Z]? = some (.cells #[.int .i64 (N : Int), .slice (some ⟨g, 0, none⟩) n c] 104 (0, 0)) := by rw [hw1, hZ]; exact heap_alloc_new _ _
  have W1 := hid (And.intro hw1 hZ)
  have HA := hid (apply_any (w := w1.drew) ((h.below b1).below (Below.refl _ _).drew) (below_heap b1 hS) (below_heap b1 hM) (N := (N : Int)) (by omega) hmiss hk)
  have n1 := h.n1
  have G0 := hid (And.intro hL (And.intro hSt (And.intro h4 (And.intro h (And.intro hO (And.intro hdel (And.intro hI (And.intro hT (And.intro hP (And.intro hbel (And.intro htrim (And.intro hTF (And.intro hS hM)))))))))))))
  have tn : decide ((n : Int) > 0) = true := by simp; omega
  have tn' : ((0 : Int) < (n : Int)) = True := by simp; omega
  have z0 := cell_at g1 (i := 0) (v := .int .i64 (N : Int)) rfl
  have z1 := cell_at g1 (i := 1) (v := .slice (some ⟨g, 0, none⟩) n c) rfl
  have l1 := cell_at (below_heap b1 hL) (i := 1) (v := .pointer (some ⟨S, 0, none⟩)) rfl
  have B1 := hid (And.intro b1 g1)
  clear hL hSt h hS hM hmiss hk hO hdel hI hT hP hbel htrim hTF hw1 hZ b1 g1
  go_enter Tryz.func37, Tryz.ntmps37
  go_upto_region 1 with fail
  rw [← W1.out.1, ← W1.out.2]
  go_upto_region 4 with fail
  refine start_ (n := 7) (S := fun w' => w'.cell? ⟨L, 1, none⟩ = some (.pointer (some ⟨S, 0, none⟩)) ∧ w'.cell? ⟨Z, 0, none⟩ = some (.int .i64 (N : Int)) ∧ w'.cell? ⟨Z, 1, none⟩ = some (.slice (some ⟨g, 0, none⟩) n c) ∧ w' = w1.drew) (ds := [5]) (tf 7 0) (by kernel_rfl) rfl rfl ⟨l1, z0, z1, rfl⟩ (fun hHeld => ?_); refine pure_ (i := 0) (N := some 16) (v := ?_) (a' := ?_) (tf 7 1) rfl rfl (by kernel_rfl) (fun _ _ _ h => h) (Or.inl ⟨by rfl, ?_⟩) ?_ ?_; rotate_left; (· intro w'; go_simp; (with_reducible rfl)); rotate_left; (· simp only [pn_]; rfl); refine pure_ (i := 1) (N := some 17) (v := ?_) (a' := ?_) (tf 7 3) rfl rfl (by kernel_rfl) (fun _ _ _ h => h) (Or.inl ⟨by rfl, ?_⟩) ?_ ?_; rotate_left; (· intro w'; go_simp; (with_reducible rfl)); rotate_left; (· simp only [pn_]; rfl); refine pure_ (i := 2) (N := some 18) (v := ?_) (a' := ?_) (tf 7 7) rfl rfl (by kernel_rfl) (fun _ _ _ h => h) (Or.inl ⟨by rfl, ?_⟩) ?_ ?_; rotate_left; (· intro w'; go_simp; (with_reducible rfl)); rotate_left; (· simp only [pn_]; rfl); refine take_ (i := 3) (N := some 19) (v := ?_) (a' := ?_) (tf 7 15) rfl rfl (by kernel_rfl) (fun _ _ _ h => h) (Or.inl ⟨by rfl, ?_⟩) hHeld ?_ ?_; rotate_left; (· rintro w' ⟨s0, s1, s2, s3⟩; go_simp; (with_reducible rfl)); rotate_left; (· simp only [pn_]; rfl); refine take_ (i := 4) (N := some 20) (v := ?_) (a' := ?_) (tf 7 31) rfl rfl (by kernel_rfl) (fun _ _ _ h => h) (Or.inl ⟨by rfl, ?_⟩) hHeld ?_ ?_; rotate_left; (· rintro w' ⟨s0, s1, s2, s3⟩; go_simp; (with_reducible rfl)); rotate_left; (· simp only [pn_]; rfl); refine last_ (i := 5) (N := some 21) (tf 7 63) rfl rfl (by kernel_rfl) (by decide) (fun K hK => ?_); refine goes_ Tryz.func68 (by kernel_rfl) rfl #[.pointer (some ⟨S, 0, none⟩), .agg #[.int .i64 (N : Int), .slice (some ⟨g, 0, none⟩) n c]] (by rfl) rfl rfl (by simp only [List.map_toArray, List.map_cons, List.map_nil]; rfl) ?_; (with_reducible refine ((hHeld.2.2.2 ▸ HA.out)).mono ?_); rintro e w2 ⟨rfl, ch, hch, ap⟩; refine ⟨_, rfl, ?_⟩; refine hK.out _ _ ?_; clear hK K; refine norm_ (a' := ?_) ?_ ?_; rotate_left; (· show Act.put _ (some 21) _ = _; simp only [pn_]; rfl); refine pure_ (i := 6) (N := some 7) (v := ?_) (a' := ?_) (tf 7 127) rfl rfl (by kernel_rfl) (fun _ _ _ h => h) (Or.inl ⟨by rfl, ?_⟩) ?_ ?_; rotate_left; (· intro w'; go_simp; (with_reducible rfl)); rotate_left; (· simp only [pn_]; rfl); refine done_ (by kernel_rfl) ?_
  obtain ⟨hL, hSt, h4, h, hO, hdel, hI, hT, hP, hbel, htrim, hTF, hS, hM⟩ := G0.out
  have bz : Below w.heap.size w w1.drew := B1.out.1.drew
  have kb2 : KB [S, SM] [137] [SM] [] w w2 := (KB.of_below bz).trans ap.kb
  have hL2 := kb2.1.cells hL (by decide)
  have hSt2 := hSt.keeps kb2.1 (by decide)
  have hB2 := h.keeps kb2.1 (by decide) (fun _ _ _ _ q => by cases q)
  have hT2 := hT.kb kb2 (by simp; omega)
  have hO2 := kb2.1.map hO (by simpa using hOS)
  have hI2 := hI.keeps kb2.1 (by decide)
  have hZ2 := ap.kb.1.cells (show w1.drew.heap[Z]? = _ from B1.out.2) (by decide)
  have HG := hid (lgrow_any (N := N) hL2 hSt2 h4 hB2 (by omega) hT2.at_ (hP w2 kb2.1))
  have G2 := hid (And.intro ap (And.intro kb2 (And.intro hT2 (And.intro hO2 (And.intro hI2 (And.intro hL2 hZ2))))))
  have y0 := cell_at hZ2 (i := 0) (v := .int .i64 (N : Int)) rfl
  have y1 := cell_at hZ2 (i := 1) (v := .slice (some ⟨g, 0, none⟩) n c) rfl
  clear hL hSt h hO hdel hI hT hP hbel htrim hTF hS hM bz kb2 hL2 hSt2 hB2 hT2 hO2 hI2 hZ2 ap z0 z1 l1 HA
  go_wp2_with fail
  with_reducible refine HG.out.mono ?_
  rintro e w3 ⟨rfl, R', rc', tv', g3, st3, tf3, r3, kb3⟩
  obtain ⟨ap, kb2, hT2, hO2, hI2, hL2, hZ2⟩ := G2.out
  have kb03 : KB [L, R, S, SM] [95, 89, 137] [SM] [] w w3 := (kb2.mono (bs' := [L, R, S, SM]) (ts' := [95, 89, 137]) (ms' := [SM]) (rs' := []) (by intro b hb; simp at hb ⊢; omega) (by simp) (by simp) (by simp)).then kb3 (by intro b hb _; simp at hb ⊢; omega) (by simp) (by simp) (by simp)
  have hO3 := kb3.1.map hO2 (by simp)
  have hI3 := hI2.keeps kb3.1 (by decide)
  have hZ3 := kb3.1.cells hZ2 (by decide)
  have m1 := cell_at g3 (i := 2) (v := .map (some O)) rfl
  have G3 := hid (And.intro g3 (And.intro st3 (And.intro tf3 (And.intro kb03 (And.intro hO3 (And.intro hI3 (And.intro hZ3 (And.intro r3 kb3))))))))
  clear g3 st3 tf3 r3 kb3 kb03 hO3 hI3 hZ3 ap kb2 hT2 hO2 hI2 hL2 hZ2 y0 y1 HG m1
  go_wp2
  go_loopw [30] (fun i wr => ∃ j : Nat, j ≤ n ∧ i = .int .i64 j ∧ Hid (wr.heap[O]? = some (.map (Es j) cl) ∧ KB [O] [] [O] [] w3 wr)) (fun i _ => n - (intOf i).toNat)
  case atStart => exact ⟨0, by omega, rfl, hid ⟨G3.out.2.2.2.2.1, KB.refl _ _ _ _ _⟩⟩
  case round =>
    obtain ⟨j, hj, rfl, hh⟩ := hrel
    have ll := hh.out.2.1.cells G3.out.1 (by decide)
    have m1 := cell_at ll (i := 2) (v := .map (some O)) rfl
    by_cases hlt : j < n
    · have t1 : decide ((j : Int) < (n : Int)) = true := by simp; omega
      have i1 := (G3.out.2.2.2.2.2.1.keeps hh.out.2.1 (by decide)).get hlt
      obtain ⟨i, v, hf, he⟩ := G0.out.2.2.2.2.2.1 j hlt
      have FD := hid (And.intro hf he)
      have LL := hid ll
      obtain ⟨idj, hidj⟩ : ∃ x, x = (tx j).id := ⟨_, rfl⟩
      rw [← hidj] at i1 FD
      clear ll hf he hidj
      go_wp2_with (refine wpList_del rfl (.tmp 37) (.tmp 38) 92 3 rfl O _ _ (.int .i64 idj) rfl rfl (run_del (k := .int .i64 idj) Tryz.underlying92 Tryz.underlying3 rfl hh.out.1 FD.out.1) ?_)
      intro w5 p1 p2
      have FX := hid (show w5.heap[O]? = some (.map (Es (j + 1)) cl) ∧ KB [O] [] [O] [] w3 w5 from ⟨by rw [FD.out.2]; exact p1, hh.out.2.trans ((KB.refl [O] [] [O] [] wr).of_map p2 ⟨_, _, hh.out.1⟩ (by simp) (by simp))⟩)
      clear p1 p2 i1 hh m1
      go_wp2
      go_roundw
      case rel => exact ⟨j + 1, by omega, by go_num, FX⟩
      case measure => simp [intOf]; omega
    · obtain rfl : j = n := by omega
      have t1 : decide ((j : Int) < (j : Int)) = false := by simp
      obtain ⟨g3, st3, tf3, kb03, hO3, hI3, hZ3, r3, kb3⟩ := G3.out
      have zz := hh.out.2.1.cells hZ3 (by decide)
      have z1 := cell_at zz (i := 1) (v := .slice (some ⟨g, 0, none⟩) j c) rfl
      have m2 := cell_at ll (i := 1) (v := .pointer (some ⟨S, 0, none⟩)) rfl
      have sS := hh.out.2.1.cells (kb3.1.cells G2.out.1.sto (by decide)) (by decide)
      have sM := hh.out.2.1.map (kb3.1.map G2.out.1.map (by simp)) (by simpa using hOS.symm)
      have kt : KT [95, 89, 137] [O, SM] [] w wr := (kb03.1.mono (ts' := [95, 89, 137]) (ms' := [O, SM]) (rs' := []) (by simp) (by simp) (by simp)).then hh.out.2.1 (by simp) (by simp) (by simp)
      have chn : ∀ m (h : m < ch.length), ChainK wr ch[m] (N : Int) ∧ w.heap.size ≤ ch[m] := fun m h => by
        obtain ⟨c1, c2⟩ := G2.out.1.ch m h
        exact ⟨(c1.keeps kb3.1 (by decide)).keeps hh.out.2.1 (by decide), Nat.le_trans B1.out.1.size c2⟩
      have HB := hid (fun (wz : World) (hz : Below wr.heap.size wr wz) => G0.out.2.2.2.2.2.2.2.2.2.1 wz R' (ns + 1) rc' (below_heap hz ll) (below_heap hz sS) (below_heap hz hh.out.1) (kt.below hz))
      have HT := hid (fun (wz : World) (x : Int) (hz : Below wr.heap.size wr wz) => G0.out.2.2.2.2.2.2.2.2.2.2.1 wz ch x hch (below_heap hz sS) (below_heap hz sM) (fun m h => ⟨(chn m h).1.below hz, (chn m h).2⟩) G2.out.1.nd (kt.below hz))
      have FF := hid (And.intro ll (And.intro sS (And.intro sM (And.intro kt (And.intro chn (And.intro hh.out st3))))))
      clear g3 st3 tf3 kb03 hO3 hI3 hZ3 r3 kb3 zz sS sM kt chn hh ll m1
      go_upto_region 14 with fail
      refine start_ (n := 7) (S := fun w' => w'.cell? ⟨L, 1, none⟩ = some (.pointer (some ⟨S, 0, none⟩)) ∧ Below wr.heap.size wr w') (ds := [6]) (tf 7 0) (by kernel_rfl) rfl rfl ⟨m2, (Below.refl wr.heap.size wr).drew⟩ (fun hHeld => ?_); refine pure_ (i := 0) (N := some 44) (v := ?_) (a' := ?_) (tf 7 1) rfl rfl (by kernel_rfl) (fun _ _ _ h => h) (Or.inl ⟨by rfl, ?_⟩) ?_ ?_; rotate_left; (· intro w'; go_simp; (with_reducible rfl)); rotate_left; (· simp only [pn_]; rfl); refine pure_ (i := 1) (N := some 45) (v := ?_) (a' := ?_) (tf 7 3) rfl rfl (by kernel_rfl) (fun _ _ _ h => h) (Or.inl ⟨by rfl, ?_⟩) ?_ ?_; rotate_left; (· intro w'; go_simp; (with_reducible rfl)); rotate_left; (· simp only [pn_]; rfl); refine pure_ (i := 2) (N := some 46) (v := ?_) (a' := ?_) (tf 7 7) rfl rfl (by kernel_rfl) (fun _ _ _ h => h) (Or.inl ⟨by rfl, ?_⟩) ?_ ?_; rotate_left; (· intro w'; go_simp; (with_reducible rfl)); rotate_left; (· simp only [pn_]; rfl); refine pure_ (i := 4) (N := some 48) (v := ?_) (a' := ?_) (tf 7 23) rfl rfl (by kernel_rfl) (fun _ _ _ h => h) (Or.inl ⟨by rfl, ?_⟩) ?_ ?_; rotate_left; (· intro w'; go_simp; (with_reducible rfl)); rotate_left; (· simp only [pn_]; rfl); refine take_ (i := 3) (N := some 47) (v := ?_) (a' := ?_) (tf 7 31) rfl rfl (by kernel_rfl) (fun _ _ _ h => h) (Or.inl ⟨by rfl, ?_⟩) hHeld ?_ ?_; rotate_left; (· rintro w' ⟨s0, s1⟩; go_simp; (with_reducible rfl)); rotate_left; (· simp only [pn_]; rfl); refine one_ (i := 5) (N := some 49) (tf 7 63) rfl rfl (by kernel_rfl) (by decide) (fun K hK => ?_); refine goes_ Tryz.func71 (by kernel_rfl) rfl #[.pointer (some ⟨L, 0, none⟩)] (by rfl) rfl rfl (by simp only [List.map_toArray, List.map_cons, List.map_nil]; rfl) ?_; (with_reducible refine ((HB.out _ hHeld.2)).mono ?_); rintro e wy ⟨⟨x, rfl⟩, by_⟩; refine ⟨_, rfl, ?_⟩; refine hK.out _ _ ⟨(below_cell by_ hHeld.1), (below_then hHeld.2 by_)⟩ (fun hHeld => ?_); clear hK K; refine norm_ (a' := ?_) ?_ ?_; rotate_left; (· show Act.put _ (some 49) _ = _; simp only [pn_]; rfl); refine last_ (i := 6) (N := some 50) (tf 7 127) rfl rfl (by kernel_rfl) (by decide) (fun K hK => ?_); refine goes_ Tryz.func70 (by kernel_rfl) rfl #[.pointer (some ⟨S, 0, none⟩), .int .i64 x] (by rfl) rfl rfl (by simp only [List.map_toArray, List.map_cons, List.map_nil]; rfl) ?_; (with_reducible refine ((HT.out _ x hHeld.2)).mono ?_); rintro e w8 ⟨rfl, ch8, k8⟩; refine ⟨_, rfl, ?_⟩; have bY := hHeld.2; refine hK.out _ _ ?_; clear hK K; refine norm_ (a' := ?_) ?_ ?_; rotate_left; (· show Act.put _ (some 50) _ = _; simp only [pn_]; rfl); refine done_ (by kernel_rfl) ?_
      obtain ⟨ll, sS, sM, kt, chn, hh, st3⟩ := FF.out
      obtain ⟨g3, _, tf3, kb03, hO3, hI3, hZ3, r3, kb3⟩ := G3.out
      have kz : KB (co ++ ch) [293] [] [] wr w8 := (KB.of_below bY).trans k8
      have K3 : KB ([L, R, S, SM, O] ++ co) [95, 89, 137, 293] [O, SM] [] w wr := (kb03.mono (bs' := [L, R, S, SM, O] ++ co) (ts' := [95, 89, 137, 293]) (ms' := [O, SM]) (rs' := []) (by intro b hb; simp at hb ⊢; rcases hb with h | h | h | h <;> simp [h]) (by simp) (by simp) (by simp)).then hh.2 (by intro b hb _; simp at hb; simp [hb]) (by simp) (by simp) (by simp)
      have K8 : KB ([L, R, S, SM, O] ++ co) [95, 89, 137, 293] [O, SM] [] w w8 := K3.then kz (by
        intro b hb hlt
        rcases List.mem_append.1 hb with hb | hb
        · exact List.mem_append.2 (.inr hb)
        · obtain ⟨m, hm, rfl⟩ := List.getElem_of_mem hb
          have := (chn m hm).2
          omega) (by simp) (by simp) (by simp)
      have FIN := hid (show ∃ R' rc' tv' ch, ch.length = j ∧ w8.heap[L]? = some (.cells (ledC Tb tc S O next R' (ns + 1) rc') 95 (0, 0)) ∧ StAt w8 R' (ns + 1) rc' tv' ∧ TF w8 tv' ∧ w.heap.size ≤ R' ∧
        w8.heap[S]? = some (.cells (stoC SM (N : Int)) 137 (0, 0)) ∧ w8.heap[SM]? = some (.map (chL tx q 0 ss ch) (q + ch.length)) ∧ (∀ m (h : m < ch.length), ChainK w8 ch[m] (N : Int) ∧ w.heap.size ≤ ch[m]) ∧ w8.heap[O]? = some (.map (Es j) cl) ∧
        KB ([L, R, S, SM, O] ++ co) [95, 89, 137, 293] [O, SM] [] w w8 from by
        refine ⟨R', rc', tv', ch, hch, kz.1.cells ll (by decide), (st3.keeps hh.2.1 (by decide)).keeps kz.1 (by decide), ?_, Nat.le_trans G2.out.2.1.1.size r3, kz.1.cells sS (by decide), kz.1.map sM (by simp), fun m h => ⟨ch8 m h, (chn m h).2⟩, kz.1.map hh.1 (by simp), K8⟩
        exact G0.out.2.2.2.2.2.2.2.2.2.2.2.1 w3 w8 tv' tf3 (((KT.refl [95, 293] [O] [] w3).then hh.2.1 (by simp) (by simp) (by simp)).then kz.1 (by simp) (by simp) (by simp)))
      clear ll sS sM kt chn hh st3 g3 tf3 kb03 hO3 hI3 hZ3 r3 kb3 kz K3 K8 ch8 k8 bY by_ m2
      go_wp2
      go_ret
      exact ⟨rfl, FIN.out⟩
end Go.Proofs.YtnidgljkbmceaaaGreatDoor
namespace Go.Proofs.YtnidgljkbmceaaaGreatDoor
def nChk : List Nat → Nat → Bool
  | [], _ => true
  | v :: vs, i => strict i fun i => (nWord i).beq v && nChk vs (i + 1)
theorem nChk_get : ∀ (l : List Nat) (i : Nat), nChk l i = true → ∀ j, j < l.length → nWord (i + j) ∈ l
  | [], _, _, j, h => absurd h (by simp)
  | v :: vs, i, hc, j, h => by
    have hc' : (strict i fun i => (nWord i).beq v && nChk vs (i + 1)) = true := hc
    rw [strict_eq, Bool.and_eq_true] at hc'
    cases j with
    | zero => rw [Nat.add_zero, Nat.eq_of_beq_eq_true hc'.1]; exact .head _
    | succ j =>
      have := nChk_get vs (i + 1) hc'.2 j (by simpa using h)
      rw [show i + (j + 1) = i + 1 + j by omega]
      exact .tail _ this
def wordsX : List Nat := [3835131269, 1007930259, 3480907728, 924004150, 2853429343, 422411796, 3645039666, 898252073, 1907533600, 2759766684, 1360592288, 1451394230, 3645431265, 2751472834, 2437689535, 570971133, 908700580, 2630318600, 3323502640, 1268897780, 1839233404, 3719618335, 4220553360, 1315508255, 552247532, 2967890522, 2966188463, 1068453901, 1742112347, 2050538845, 1539704213, 4055332068, 6347282, 3600526613, 415928183, 2546267043, 955958907, 292996864, 1977735676, 3257221183, 4009145356, 3070777790, 3628269148, 1693808235, 3709252861, 3905779263, 2050823032, 606901267, 3887897965, 2332051483, 1529908000, 3277988090, 2733043676, 340412289, 121696396, 81639909, 1508301498, 1905421284, 2621779499, 4080938529, 340015193, 1757118821, 730320556, 1378791793, 419491348, 1504998335, 3999283815, 930623503, 1024447141, 739422324, 33338086, 494091570, 1109376580, 622850853, 1402382639, 1052697555, 2340675066, 1205050139, 3744042712, 2223337543, 2170056331, 3587114660, 3403985771, 945690212, 3793334535, 4252827494, 3846534663, 2932522092, 1495597709, 2608358297, 1717151727, 1686065527, 1372312864, 252752913, 2084773219, 3840954729, 200009189, 1136410063, 2368581210, 947903190, 2160894622, 47500592, 1599193037, 1133651530, 2626937559, 1509068201, 1720181080, 1073117187, 439432960, 2231104677, 3161747220, 3722376077, 805043464, 917909911, 2249788585, 34094679, 3482318564, 754869213, 7640606, 4189458836, 3612103546, 222948812, 3712958410, 3335600295, 2827403302, 2794086320, 3807666837, 930323782, 2909029550, 3742808289, 2146420201, 317013278, 4041302470, 2210822942, 3266192930, 3199780704, 1223498757, 3141873637, 4014293862, 516554682, 395451861, 1532516486, 1468338705, 3869984075, 3222449788, 3368124724, 2442847159, 3219860001, 967307743, 3221253135, 71364025, 3416821218, 2711951152, 3316894565, 2684146462, 4004738517, 1426874532, 2161372166, 2439173532, 1463465817, 1363371303, 3174448170, 814508271, 3152889270, 947756922, 1795181533, 1201517163, 3147711623, 3061835620, 2950867572, 3721016848, 2886818815, 473096794, 2355986396, 3841688219, 213379846, 1984082207, 2580965999, 3290032984, 3152327552, 4018792118, 2433777958, 3222137515, 2601760870, 217086603, 916152149, 58818230, 86612804, 2921890362, 4092919719, 3777608486, 19431131, 3379563944, 2729087635, 1044886812, 4152680041, 634846983, 1252231970, 1121590871, 2650560053, 433808519, 3231360978, 4140521451, 2394322545, 2054441512, 1575989319, 3659134285, 667982847, 2957898871, 268121125, 2283366136, 481258841, 2473221878, 1438027121, 113311632, 1435698648, 999920584, 3706303207, 941093085, 527125539, 1683061582, 3580021582, 2663661671, 2593654303, 3392635448, 1515541863, 2208735303, 2729671598, 165762895, 1987369642, 458375001, 2797420103, 71405042, 2948690745, 169266739, 3017564433, 3471510110, 4096156427, 4113235432, 790737991, 3130099617, 1139229438, 3521730266, 447167422, 788532296, 983331808, 2533520195, 655605580, 3005307141, 2284793829, 948911982, 119813262, 3913197647, 1427639692, 1896169663, 3920291554]
def wordsY : List Nat := [1410833628, 3273841723, 3025549834, 1478008739, 881715755, 3197915725, 3011122343, 2663033157, 1058536979, 3034146811, 1777222199, 1078149197, 150962256, 2500651190, 2689753882, 1301082292, 1953271975, 2952179920, 3751763989, 258974720, 2829657295, 1717466469, 1726590594, 1275601821, 1251643824, 486404070, 1291141193, 1294828030, 3116603526, 341581795, 722272608, 1315512451, 3550624282, 1315399572, 2481120071, 3218942307, 2066476517, 559201441, 2420724161, 2883335950, 171692500, 3921696568, 3423555657, 3440441407, 3825050741, 513888481, 1524786123, 1747015454, 2364592507, 1892928807, 365770080, 1094267164, 295316191, 185187308, 1831687062, 2276217557, 2168599214, 2094559662, 3741739072, 347988857, 3378524489, 337532151, 1793470374, 3891503240, 3835367190, 647864258, 1799894242, 4171963904, 3622422217, 3872514587, 3787800121, 3088102578, 539393566, 3952137311, 684110822, 2193656050, 2014585075, 2647661132, 87884178, 998492541, 2645588989, 2726204982, 4049422113, 3767683388, 1039459546, 294106573, 4151001193, 3118285988, 1783054474, 3275584247, 2380410743, 2418040787, 1020200048, 3661022068, 942451560, 762281605, 2323873260, 521801930, 1752238741, 2508753221, 2210779856, 1233614638, 2316416455, 4155975472, 2045914222, 2318970346, 2812449798, 1172693191, 3304007058, 2598852781, 1129081066, 827999939, 2745756375, 3988476365, 376658954, 3729138892, 2493460014, 293433308, 1432763343, 2835764097, 3370534140, 3734014258, 1875726583, 1664553801, 3176451479, 525003688, 3428883154, 1989637775, 3777258093, 2499978846, 1958028660, 1521252150, 4241699949, 2162830498, 3735680738, 1933357175, 2876370827, 2822523915, 988994751, 4272763054, 532622102, 3054082199, 1253737922, 962799143, 512072539, 2689305723, 3668259992, 210483537, 2988681631, 3676327129, 4193183649, 289660590, 2481641392, 1465743655, 3225261588, 2650499810, 2682069786, 4014439731, 2370209400, 959321967, 2648842171, 1793659841, 2401572608, 4273117578, 2814975872, 2356761169, 2460772454, 721171940, 2801175021, 2272695416, 1418410911, 2016719699, 1303872822, 101839135, 734682547, 921908300, 4114624594, 2514631226, 3468333241, 1128371436, 3829953244, 557624740, 2153146465, 752712411, 2689352054, 907672332, 3594694625, 3251258793, 1498153363, 1478390055, 2568514992, 2509168496, 2912778587, 4053490954, 1740144691, 2982679015, 2244695672, 3713085650, 1623755550, 1718922157, 3873635703, 2487414805, 181446405, 1073804231, 2108203199, 1282600939, 1606185581, 1983674126, 3799375724, 826232321, 954770355, 1375064424, 1895791774, 3674720701, 2625946903, 1181930832, 1586405724, 2049909512, 1734977578, 1011405328, 3976718004, 2590194598, 3862515039, 816006445, 3501955468, 852616525, 3619333326, 1162184938, 2170919390, 19271076, 4077119321, 54179916, 621483733, 3820676540, 345132459, 267447329, 309365714, 1899086649, 1512656565, 1713733461, 2021085139, 2103379981, 1969473589, 1189203856, 3812992277, 858800390, 1815312758, 476806919, 3171750553, 3737797615, 1995415402, 2607781210, 736859500, 2881895820, 483699507, 2744682924]
def nApart (l m : List Nat) : Bool := l.all fun x => m.all fun y => !(x.beq y)
theorem nApart_spec {l m : List Nat} (h : nApart l m = true) {x y : Nat} (hx : x ∈ l) (hy : y ∈ m) : x ≠ y := by
  have h1 := List.all_eq_true.1 (List.all_eq_true.1 h x hx) y hy
  intro e
  subst e
  simp at h1
theorem wordsX_ok : nChk wordsX 0 = true := by decide +kernel
theorem wordsY_ok : nChk wordsY 300 = true := by decide +kernel
theorem words_apart : nApart wordsX wordsY = true := by decide +kernel
theorem wordsX_len : wordsX.length = 256 := by decide +kernel
theorem wordsY_len : wordsY.length = 256 := by decide +kernel
theorem keysN_apart {a b : Nat} (ha : a < 256) (hb : b < 256) : sum256 (keyN a) ≠ sum256 (keyN (b + 300)) := by
  obtain ⟨x, l, hx, ex⟩ := keyN_first a (by omega)
  obtain ⟨y, m, hy, ey⟩ := keyN_first (b + 300) (by omega)
  intro e
  rw [ex, ey] at e
  have h := four_inj e
  have h1 := nChk_get wordsX 0 wordsX_ok a (by rw [wordsX_len]; exact ha)
  have h2 := nChk_get wordsY 300 wordsY_ok b (by rw [wordsY_len]; exact hb)
  rw [Nat.zero_add] at h1
  rw [show 300 + b = b + 300 by omega] at h2
  exact nApart_spec words_apart h1 h2 (by rw [← hx, ← hy, h])
end Go.Proofs.YtnidgljkbmceaaaGreatDoor
namespace Go.Proofs.YtnidgljkbmceaaaGreatDoor
open Go.RowKit PrintLast Go.Maps Go.MapKept
theorem LeafK.lower {w : World} {v : Value} {k : ByteArray} {row : List UInt8} {lo lo' : Nat} (h : LeafK w v k row lo) (hl : lo' ≤ lo) : LeafK w v k row lo' := by
  obtain ⟨g, A, c, h1, h2, h3, h4⟩ := h
  exact ⟨g, A, c, h1, h2, h3, fun b e => Nat.le_trans hl (h4 b e)⟩
theorem dig_tree {w : World} {v : Option Addr} {t : Tr} (h : Tree w (.pointer v) t) (hT : Table w) : ∃ d : ByteArray, d.size ≤ 1000 ∧ ∀ w', Below w.heap.size w w' → Calls Tryz.prog 124 #[.pointer v] w' fun e w'' => e = .returned (.string d) ∧ Below w'.heap.size w' w'' :=
  ⟨digS t, by rw [digS_size]; omega, fun w' hb => digest_any (hT.below hb) (Tree.below h hb)⟩
theorem good_one (a : Itm) : Good 256 [a] := ⟨by simp, fun _ _ _ _ i hi => by omega⟩
theorem good_two {a b : Itm} (h : pathK a.key ≠ pathK b.key) : Good 256 [a, b] := ⟨by simp [h], fun _ _ _ _ i hi => by omega⟩
theorem tells_two {a : Itm} {k : ByteArray} (h : pathK a.key ≠ pathK k) : Tells [a] k := fun y hy e => by
  simp at hy
  subst hy
  exact absurd e h
theorem put_two {a b : Itm} (h : pathK a.key ≠ pathK b.key) : putI [a] b = [b, a] := by
  have h2 : a.key ≠ b.key := fun e => h (by rw [e])
  simp [putI, h2]
theorem put_second {w : World} (hT : Table w) {v : Option Addr} {k key : ByteArray} {r row : List UInt8} {lo : Nat} {A : Option Addr} {c : Nat} (hv : LeafK w (.pointer v) k r lo) (hk : key.size ≤ 1000000) (hr : row.length ≤ 1000000) (hA : BSA w A c row) (hne : pathK k ≠ pathK key) :
    Calls Tryz.prog 123 #[.pointer v, .string key, .slice A row.length c] w fun e w' => ∃ v', e = .returned (.pointer v') ∧ Tree w' (.pointer v') (treeF 256 [⟨key, row⟩, ⟨k, r⟩]) ∧ Below w.heap.size w w' := by
  have hne' : pathK (Itm.mk k r).key ≠ pathK (Itm.mk key row).key := hne
  have P := Put_any (l := [⟨k, r⟩]) (key := key) (row := row) hT (by rw [treeF_one]; exact hv.tree) hk rfl hr hA (good_one _) (by rw [put_two hne']; exact good_two (Ne.symm hne')) (tells_two hne') (by simp)
  rw [put_two hne'] at P
  refine P.mono ?_
  rintro e w' ⟨v', rfl, t', b'⟩
  rcases TreeAt.ptr t' with ⟨_, rfl⟩ | ⟨g, rfl, _⟩
  · exact ⟨_, rfl, t', b'⟩
  · exact ⟨_, rfl, t', b'⟩
theorem put_first' {w : World} (hT : Table w) {key : ByteArray} {A : Option Addr} {c : Nat} {row : List UInt8} (hk : key.size ≤ 1000000) (hr : row.length ≤ 1000000) (hA : BSA w A c row) :
    Calls Tryz.prog 123 #[.pointer none, .string key, .slice A row.length c] w fun e w' => ∃ v', e = .returned (.pointer v') ∧ LeafK w' (.pointer v') key row w.heap.size ∧ Below w.heap.size w w' := by
  refine (put_first hT hk rfl hr hA).mono ?_
  rintro e w' ⟨v, rfl, l, b⟩
  obtain ⟨g, A', c', rfl, h⟩ := l
  exact ⟨_, rfl, ⟨g, A', c', rfl, h⟩, b⟩
def TreeN (tx : Nat → TxR) (lo : Nat) : Nat → World → Option Addr → Prop
  | 0, _, v => v = none
  | 1, w, v => LeafK w (.pointer v) (tx 0).k (tx 0).row lo
  | _, w, v => Tree w (.pointer v) (treeF 256 [⟨(tx 1).k, (tx 1).row⟩, ⟨(tx 0).k, (tx 0).row⟩])
theorem TreeN.below {tx : Nat → TxR} {lo : Nat} {j : Nat} {w w' : World} {v : Option Addr} (h : TreeN tx lo j w v) (hb : Below w.heap.size w w') : TreeN tx lo j w' v := by
  match j, h with
  | 0, h => exact h
  | 1, h => exact LeafK.below h hb
  | j + 2, h => exact Tree.below h hb
theorem TreeN.tree {tx : Nat → TxR} {lo : Nat} {j : Nat} {w : World} {v : Option Addr} (h : TreeN tx lo j w v) : ∃ t, Tree w (.pointer v) t := by
  match j, h with
  | 0, h => rw [show v = none from h]; exact ⟨.nil, Tree.nil w⟩
  | 1, h => exact ⟨_, LeafK.tree h⟩
  | j + 2, h => exact ⟨_, h⟩
theorem puts_new {tx : Nat → TxR} {n lo : Nat} {w1 : World} {TF : World → Option Addr → Prop} (hn : 1 ≤ n ∧ n ≤ 2) (hlo : lo ≤ w1.heap.size) (hk : ∀ m, m < n → (tx m).k.size ≤ 1000) (hr : ∀ m, m < n → (tx m).row.length ≤ 1000) (hne : n = 2 → pathK (tx 0).k ≠ pathK (tx 1).k)
    (hTF : ∀ w w' v, TreeN tx lo n w v → KT [95, 89] [] [] w w' → TF w' v) : Puts tx n none w1 (TreeN tx lo) TF where
  start := rfl
  low := fun j w w' v h hb => h.below hb
  put := fun j w v A c hj h hT hb hA => by
    have h1 := hk j hj
    have h2 := hr j hj
    match j, h, hj with
    | 0, h, _ =>
      rw [show v = none from h]
      refine (put_first' hT (by omega) (by omega) hA).mono ?_
      rintro e w' ⟨v', rfl, l, b⟩
      exact ⟨v', rfl, LeafK.lower l (Nat.le_trans hlo hb.size), b⟩
    | 1, h, hj =>
      have := hb.size
      refine (put_second hT (show LeafK w (.pointer v) (tx 0).k (tx 0).row lo from h) (by omega) (by omega) hA (hne (by omega))).mono ?_
      rintro e w' ⟨v', rfl, l, b⟩
      exact ⟨v', rfl, l, b⟩
    | j + 2, _, hj => omega
  dig := fun w v h hT => by
    obtain ⟨t, ht⟩ := h.tree
    exact dig_tree ht hT
  fin := hTF
theorem puts_more {tx : Nat → TxR} {lo : Nat} {w1 : World} {v : Option Addr} {k : ByteArray} {r : List UInt8} (hv : LeafK w1 (.pointer v) k r lo) (hk : (tx 0).k.size ≤ 1000) (hr : (tx 0).row.length ≤ 1000) (hne : pathK k ≠ pathK (tx 0).k) :
    Puts tx 1 v w1 (TreeN (fun | 0 => ⟨0, 0, 0, k, .bool false, r⟩ | j + 1 => tx j) lo ∘ (· + 1)) (fun _ _ => True) where
  start := hv
  low := fun j w w' v h hb => TreeN.below h hb
  put := fun j w v A c hj h hT hb hA => by
    obtain rfl : j = 0 := by omega
    refine (put_second hT (show LeafK w (.pointer v) k r lo from h) (by omega) (by omega) hA hne).mono ?_
    rintro e w' ⟨v', rfl, l, b⟩
    exact ⟨v', rfl, l, b⟩
  dig := fun w v h hT => by
    obtain ⟨t, ht⟩ := TreeN.tree h
    exact dig_tree ht hT
  fin := fun _ _ _ _ _ => trivial
theorem keys_path {a b : Nat} (ha : a < 256) (hb : b < 256) : pathK (keyS a) ≠ pathK (keyS (b + 300)) := by
  unfold pathK
  rw [keyS_list, keyS_list]
  exact keysN_apart ha hb
theorem keys_ne {a b : Nat} (ha : a < 256) (hb : b < 256) : keyS a ≠ keyS (b + 300) := fun e => keys_path ha hb (by rw [e])
theorem keyS_size (n : Nat) : (keyS n).size = 10 := by
  have h : (keyS n).data.toList.length = 10 := by rw [keyS_list]; rfl
  simpa using h
def LogK (w : World) (b lg : Nat) (r : Option Nat) (m : Nat) : Prop := ∃ (s : Dsk.DS) (n : Nat), Dsk.LogAt w b r s lg n ∧ s.fails = false ∧ s.p.length ≤ m * 200000 ∧ n ≤ m * 200000
theorem LogK.typed {w : World} {b lg : Nat} {r : Option Nat} {m : Nat} (h : LogK w b lg r m) : (∃ cs, w.heap[b]? = some (.cells cs 75 (0, 0))) ∧ (∃ cs, w.heap[lg]? = some (.cells cs 101 (0, 0))) ∧ ∀ k, r = some k → ∃ cs, w.heap[k]? = some (.cells cs 5 (0, 0)) := by
  obtain ⟨s, n, ⟨⟨A, c, h1, h2, h3, _⟩, h4, _⟩, _⟩ := h
  exact ⟨⟨_, h1⟩, ⟨_, h4⟩, fun k e => Dsk.own_block h2 (h3.trans e)⟩
theorem LogK.keeps {w w' : World} {ts : List TypeId} {ms rs : List Nat} {b lg : Nat} {r : Option Nat} {m : Nat} (h : LogK w b lg r m) (hk : KT ts ms rs w w') (ht : 75 ∉ ts ∧ 101 ∉ ts ∧ 5 ∉ ts) (hr : ∀ k, r = some k → k ∉ rs) : LogK w' b lg r m := by
  obtain ⟨⟨c1, t1⟩, ⟨c2, t2⟩, t3⟩ := h.typed
  obtain ⟨s, n, h1, h2⟩ := h
  refine ⟨s, n, Dsk.LogAt.keeps h1 hk ?_ ?_ ?_, h2⟩
  · rintro ⟨o, ho, q⟩
    rw [t1] at ho; cases ho
    exact q.elim ht.1 (fun q => absurd q.1 (by decide))
  · intro k e
    rintro ⟨o, ho, q⟩
    obtain ⟨c3, t3⟩ := t3 k e
    rw [t3] at ho; cases ho
    exact q.elim ht.2.2 (fun q => hr k e q.2)
  · rintro ⟨o, ho, q⟩
    rw [t2] at ho; cases ho
    exact q.elim ht.2.1 (fun q => absurd q.1 (by decide))
theorem LogK.below {w w' : World} {b lg : Nat} {r : Option Nat} {m : Nat} (h : LogK w b lg r m) (hb : Below w.heap.size w w') : LogK w' b lg r m := h.keeps (KT.of_below (ts := []) (ms := []) (rs := []) hb) (by decide) (fun _ _ q => by cases q)
theorem keepsL {w w' : World} {b lg : Nat} {r : Option Nat} {m : Nat} (h : LogK w b lg r m) (hk : Keeps (Dsk.FootL b r lg) w w') : KB (b :: lg :: r.toList) [75, 101] [] r.toList w w' := by
  obtain ⟨⟨c1, t1⟩, ⟨c2, t2⟩, t3⟩ := h.typed
  refine ⟨hk.mono (fun k _ e => ?_), fun B hB q => ⟨hk.os, hk.tape, hk.output, hk.size, fun k hlt => hk.block k (by omega) (fun e => ?_)⟩⟩
  · rcases e with (rfl | e) | rfl
    · exact ⟨_, t1, .inl (by simp)⟩
    · obtain ⟨c3, t3⟩ := t3 k e
      exact ⟨_, t3, .inr ⟨rfl, by simp [e]⟩⟩
    · exact ⟨_, t2, .inl (by simp)⟩
  · rcases e with (rfl | e) | rfl
    · have := q k (by simp); omega
    · have := q k (by simp [e]); omega
    · have := q k (by simp); omega
theorem wappend_k {w : World} (hT : Table w) {b lg m : Nat} {r : Option Nat} (h : LogK w b lg r m) (hm : m ≤ 10) {A : Option Addr} {c n : Nat} {p : List UInt8} (hn : p.length = n) (hp : BSA w A c p) (hb : n ≤ 100000) :
    Calls Tryz.prog 87 #[.pointer (some ⟨lg, 0, none⟩), .slice A n c] w fun e w' => e = .returned (.int .i64 0) ∧ ∃ r1, LogK w' b lg r1 (m + 1) ∧ (∀ k, r1 = some k → r = some k ∨ w.heap.size ≤ k) ∧ KB (b :: lg :: r.toList) [75, 101] [] r.toList w w' := by
  subst hn
  have h0 := h
  obtain ⟨s, n, h1, h2, h3, h4⟩ := h
  have hok : s.ok = true := by simp [Dsk.DS.ok, h2]
  refine (Dsk.append_log hT h1 hp (by omega) (by omega) (by omega)).mono ?_
  rintro e w' ⟨rfl, r1, k1, k2, k3⟩
  refine ⟨by simp [Dsk.DS.errno, hok], r1, ⟨_, _, k1, ?_, ?_, ?_⟩, k2, keepsL h0 k3⟩
  · simp [Dsk.DS.append, hok, Dsk.DS.called, h2]
  · have : (s.append (Dsk.frameB p)).p.length = s.p.length + (8 + p.length) := by simp [Dsk.DS.append, hok, Dsk.frameB_length]
    omega
  · rw [if_pos hok]; omega
theorem wsync_k {w : World} {b lg m : Nat} {r : Option Nat} (h : LogK w b lg r m) :
    Calls Tryz.prog 90 #[.pointer (some ⟨lg, 0, none⟩)] w fun e w' => e = .returned (.int .i64 0) ∧ ∃ r1, LogK w' b lg r1 m ∧ (∀ k, r1 = some k → r = some k ∨ w.heap.size ≤ k) ∧ KB (b :: lg :: r.toList) [75, 101] [] r.toList w w' := by
  have h0 := h
  obtain ⟨s, n, h1, h2, h3, h4⟩ := h
  have hok : s.ok = true := by simp [Dsk.DS.ok, h2]
  refine (Dsk.sync_log h1).mono ?_
  rintro e w' ⟨rfl, r1, k1, k2, k3⟩
  refine ⟨by simp [Dsk.DS.errno, hok], r1, ⟨_, _, k1, ?_, ?_, h4⟩, k2, keepsL h0 (k3.mono fun k _ e => .inl e)⟩
  · simp [Dsk.DS.sync, hok, Dsk.DS.called, h2]
  · simpa [Dsk.DS.sync, hok, Dsk.DS.called] using h3
end Go.Proofs.YtnidgljkbmceaaaGreatDoor
