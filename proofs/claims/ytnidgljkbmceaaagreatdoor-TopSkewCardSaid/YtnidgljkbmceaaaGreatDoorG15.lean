/- The walks of apart, put, del. -/
import Derived.Test.YtnidgljkbmceaaaGreatDoorPn
import Derived.Test.YtnidgljkbmceaaaGreatDoorG14
import Derived.IntWalk
set_option linter.unusedVariables false
set_option linter.unusedSimpArgs false
namespace Go.Proofs.YtnidgljkbmceaaaGreatDoor
open Go.RowKit PrintLast
theorem fine_tree {f : Nat} {l : List Itm} (hf : f ≤ 256) (hg : Good f l) (hl : l.length ≤ 1000000000) : Fine (treeF f l) := ⟨treeF_wf f hf hg, by rw [treeF_count f hf hg]; exact hl⟩
theorem bit_is {k : ByteArray} {d : Nat} {b : Int} (hd : d ≤ 1000000) (h : btK k d = b) : ∀ w : World, Calls Tryz.prog 197 #[.string (pathS k), .int .i64 (d : Int)] w fun e w' => e = .returned (.int .i64 b) ∧ w = w' := fun w => by
  have := bitK_any (w := w) (k := k) hd
  rw [h] at this
  exact this
theorem Grew.cast {w w' : World} {t t' : Tr} {e : Ending} (h : Grew w t e w') (ht : t = t') : Grew w t' e w' := ht ▸ h
theorem halfI_length_le (l : List Itm) (d : Nat) (b : Int) : (halfI l d b).length ≤ l.length := List.length_filter_le _ _
set_option maxRecDepth 100000 in
set_option maxHeartbeats 12800000 in
theorem apart_walk (f : Nat) : ∀ (w : World) (va vb : Value) (a b : Itm) (d : Nat), Table w → Tree w va (.leaf a) → Tree w vb (.leaf b) → Good f [a, b] → d + f = 256 →
    Calls Tryz.prog 208 #[va, vb, .int .i64 (d : Int)] w (Grew w (treeF f [a, b])) := by
  induction f with
  | zero =>
    intro w va vb a b d _ _ _ hg _
    have := hg.few
    simp at this
  | succ f ih =>
    intro w va vb a b d hT ha hb hg hd
    have hdf : 255 - f = d := by omega
    have J := join_tree hg (by omega)
    rw [hdf, half_two, half_two] at J
    have g0 := hg.half 0 (by omega)
    have g1 := hg.half 1 (by omega)
    rw [hdf, half_two] at g0 g1
    have TT := hid (hT.below (Below.refl _ w).drew)
    have AA := hid (Tree.below ha (Below.refl _ w).drew)
    have BB := hid (Tree.below hb (Below.refl _ w).drew)
    obtain ⟨ga, Ba, da, rfl, _, h3a, _⟩ := ha
    obtain ⟨gb, Bb, db, rfl, _, h3b, _⟩ := hb
    obtain ⟨-, -, ca, -, -, -, -⟩ := seven h3a
    obtain ⟨-, -, cb, -, -, -, -⟩ := seven h3b
    have hd2 : d ≤ 255 := by omega
    have hd' : (d + 1) + f = 256 := by omega
    have IH := hid ih
    have HD' := hid hd'
    clear hT h3a h3b hdf hd hd' ih
    rcases btK_two a.key d with h1 | h1 <;> rcases btK_two b.key d with h2 | h2
    · have HA := hid (bit_is (by omega) h1)
      have HB := hid (bit_is (by omega) h2)
      simp only [h1, h2, if_true, List.cons_append, List.nil_append, show (0 : Int) ≠ 1 by decide, show (1 : Int) ≠ 0 by decide, if_false, List.append_nil] at J g0 g1
      have HJ := hid J
      have G0 := hid g0
      have G1 := hid g1
      obtain ⟨pa, hpa⟩ : ∃ p, p = pathS a.key := ⟨_, rfl⟩
      obtain ⟨pb, hpb⟩ : ∃ p, p = pathS b.key := ⟨_, rfl⟩
      rw [← hpa] at ca HA
      rw [← hpb] at cb HB
      clear h1 h2 J g0 g1 hpa hpb
      go_enter Tryz.func208, Tryz.ntmps208
      go_wp2
      refine start_ (n := 14) (S := fun w' => w'.cell? ⟨ga, 2, none⟩ = some (.string pa) ∧ w'.cell? ⟨gb, 2, none⟩ = some (.string pb)) (ds := []) (tf 14 0) (by kernel_rfl) rfl rfl ⟨ca, cb⟩ (fun hHeld => ?_); refine pure_ (i := 0) (N := some 11) (v := ?_) (a' := ?_) (tf 14 1) rfl rfl (by kernel_rfl) (fun _ _ _ h => h) (Or.inl ⟨by rfl, ?_⟩) ?_ ?_; rotate_left; (· intro w'; go_simp; (with_reducible rfl)); rotate_left; (· simp only [pn_]; rfl); refine pure_ (i := 1) (N := some 12) (v := ?_) (a' := ?_) (tf 14 3) rfl rfl (by kernel_rfl) (fun _ _ _ h => h) (Or.inl ⟨by rfl, ?_⟩) ?_ ?_; rotate_left; (· intro w'; go_simp; (with_reducible rfl)); rotate_left; (· simp only [pn_]; rfl); refine pure_ (i := 2) (N := some 13) (v := ?_) (a' := ?_) (tf 14 7) rfl rfl (by kernel_rfl) (fun _ _ _ h => h) (Or.inl ⟨by rfl, ?_⟩) ?_ ?_; rotate_left; (· intro w'; go_simp; (with_reducible rfl)); rotate_left; (· simp only [pn_]; rfl); refine pure_ (i := 4) (N := some 15) (v := ?_) (a' := ?_) (tf 14 23) rfl rfl (by kernel_rfl) (fun _ _ _ h => h) (Or.inl ⟨by rfl, ?_⟩) ?_ ?_; rotate_left; (· intro w'; go_simp; (with_reducible rfl)); rotate_left; (· simp only [pn_]; rfl); refine pure_ (i := 6) (N := some 17) (v := ?_) (a' := ?_) (tf 14 87) rfl rfl (by kernel_rfl) (fun _ _ _ h => h) (Or.inl ⟨by rfl, ?_⟩) ?_ ?_; rotate_left; (· intro w'; go_simp; (with_reducible rfl)); rotate_left; (· simp only [pn_]; rfl); refine pure_ (i := 7) (N := some 18) (v := ?_) (a' := ?_) (tf 14 215) rfl rfl (by kernel_rfl) (fun _ _ _ h => h) (Or.inl ⟨by rfl, ?_⟩) ?_ ?_; rotate_left; (· intro w'; go_simp; (with_reducible rfl)); rotate_left; (· simp only [pn_]; rfl); refine pure_ (i := 8) (N := some 19) (v := ?_) (a' := ?_) (tf 14 471) rfl rfl (by kernel_rfl) (fun _ _ _ h => h) (Or.inl ⟨by rfl, ?_⟩) ?_ ?_; rotate_left; (· intro w'; go_simp; (with_reducible rfl)); rotate_left; (· simp only [pn_]; rfl); refine pure_ (i := 10) (N := some 21) (v := ?_) (a' := ?_) (tf 14 1495) rfl rfl (by kernel_rfl) (fun _ _ _ h => h) (Or.inl ⟨by rfl, ?_⟩) ?_ ?_; rotate_left; (· intro w'; go_simp; (with_reducible rfl)); rotate_left; (· simp only [pn_]; rfl); refine take_ (i := 3) (N := some 14) (v := ?_) (a' := ?_) (tf 14 1503) rfl rfl (by kernel_rfl) (fun _ _ _ h => h) (Or.inl ⟨by rfl, ?_⟩) hHeld ?_ ?_; rotate_left; (· rintro w' ⟨s0, s1⟩; go_simp; (with_reducible rfl)); rotate_left; (· simp only [pn_]; rfl); refine take_ (i := 9) (N := some 20) (v := ?_) (a' := ?_) (tf 14 2015) rfl rfl (by kernel_rfl) (fun _ _ _ h => h) (Or.inl ⟨by rfl, ?_⟩) hHeld ?_ ?_; rotate_left; (· rintro w' ⟨s0, s1⟩; go_simp; (with_reducible rfl)); rotate_left; (· simp only [pn_]; rfl); refine one_ (i := 5) (N := some 16) (tf 14 2047) rfl rfl (by kernel_rfl) (by decide) (fun K hK => ?_); refine goes_ Tryz.func197 (by kernel_rfl) rfl #[.string pa, .int .i64 (d : Int)] (by rfl) rfl rfl (by simp only [List.map_toArray, List.map_cons, List.map_nil]; rfl) ?_; (with_reducible refine ((HA.out _)).mono ?_); rintro e' w1 ⟨rfl, rfl⟩; refine ⟨_, rfl, ?_⟩; refine hK.out _ _ ⟨hHeld.1, hHeld.2⟩ (fun hHeld => ?_); clear hK K; refine norm_ (a' := ?_) ?_ ?_; rotate_left; (· show Act.put _ (some 16) _ = _; simp only [pn_]; rfl); refine one_ (i := 11) (N := some 22) (tf 14 4095) rfl rfl (by kernel_rfl) (by decide) (fun K hK => ?_); refine goes_ Tryz.func197 (by kernel_rfl) rfl #[.string pb, .int .i64 (d : Int)] (by rfl) rfl rfl (by simp only [List.map_toArray, List.map_cons, List.map_nil]; rfl) ?_; (with_reducible refine ((HB.out _)).mono ?_); rintro e' w1 ⟨rfl, rfl⟩; refine ⟨_, rfl, ?_⟩; refine hK.out _ _ ⟨hHeld.1, hHeld.2⟩ (fun hHeld => ?_); clear hK K; refine norm_ (a' := ?_) ?_ ?_; rotate_left; (· show Act.put _ (some 22) _ = _; simp only [pn_]; rfl); refine pure_ (i := 12) (N := some 7) (v := ?_) (a' := ?_) (tf 14 8191) rfl rfl (by kernel_rfl) (fun _ _ _ h => h) (Or.inl ⟨by rfl, ?_⟩) ?_ ?_; rotate_left; (· intro w'; go_simp; (with_reducible rfl)); rotate_left; (· simp only [pn_]; rfl); refine pure_ (i := 13) (N := some 8) (v := ?_) (a' := ?_) (tf 14 16383) rfl rfl (by kernel_rfl) (fun _ _ _ h => h) (Or.inl ⟨by rfl, ?_⟩) ?_ ?_; rotate_left; (· intro w'; go_simp; (with_reducible rfl)); rotate_left; (· simp only [pn_]; rfl); refine done_ (by kernel_rfl) ?_
      clear HA HB ca cb
      have R0 := IH.out _ _ _ _ _ _ TT.out AA.out BB.out G0.out HD'.out
      rw [show ((d + 1 : Nat) : Int) = (d : Int) + 1 by omega] at R0
      have R := hid R0
      clear R0
      go_wp2_with fail
      refine R.out.mono ?_
      rintro e w2 ⟨v2, rfl, t2, b2⟩
      have TL : Tree w2 v2 (treeF f [a, b]) := t2
      have TR : Tree w2 (.pointer none) (treeF f []) := by rw [treeF_nil]; exact Tree.nil w2
      have J2 := hid (joinT_any (TT.out.below b2) TL TR (fine_tree (by have := HD'.out; omega) G0.out (by simp)) (fine_tree (by have := HD'.out; omega) G1.out (by simp)))
      have BW := hid (below_then (show Below w.heap.size w w.drew from (Below.refl _ _).drew) b2)
      clear R t2 b2 TL TR
      go_wp2_with fail
      refine J2.out.mono ?_
      rintro e w3 ⟨v3, rfl, t3, b3⟩
      rw [HJ.out] at t3
      have B3 := below_then BW.out b3
      clear J2
      go_wp2
      go_ret
      exact ⟨v3, rfl, t3, B3⟩
    · have HA := hid (bit_is (by omega) h1)
      have HB := hid (bit_is (by omega) h2)
      simp only [h1, h2, if_true, List.cons_append, List.nil_append, show (0 : Int) ≠ 1 by decide, show (1 : Int) ≠ 0 by decide, if_false, List.append_nil] at J g0 g1
      have HJ := hid J
      have G0 := hid g0
      have G1 := hid g1
      obtain ⟨pa, hpa⟩ : ∃ p, p = pathS a.key := ⟨_, rfl⟩
      obtain ⟨pb, hpb⟩ : ∃ p, p = pathS b.key := ⟨_, rfl⟩
      rw [← hpa] at ca HA
      rw [← hpb] at cb HB
      clear h1 h2 J g0 g1 hpa hpb
      go_enter Tryz.func208, Tryz.ntmps208
      go_wp2
      refine start_ (n := 14) (S := fun w' => w'.cell? ⟨ga, 2, none⟩ = some (.string pa) ∧ w'.cell? ⟨gb, 2, none⟩ = some (.string pb)) (ds := []) (tf 14 0) (by kernel_rfl) rfl rfl ⟨ca, cb⟩ (fun hHeld => ?_); refine pure_ (i := 0) (N := some 11) (v := ?_) (a' := ?_) (tf 14 1) rfl rfl (by kernel_rfl) (fun _ _ _ h => h) (Or.inl ⟨by rfl, ?_⟩) ?_ ?_; rotate_left; (· intro w'; go_simp; (with_reducible rfl)); rotate_left; (· simp only [pn_]; rfl); refine pure_ (i := 1) (N := some 12) (v := ?_) (a' := ?_) (tf 14 3) rfl rfl (by kernel_rfl) (fun _ _ _ h => h) (Or.inl ⟨by rfl, ?_⟩) ?_ ?_; rotate_left; (· intro w'; go_simp; (with_reducible rfl)); rotate_left; (· simp only [pn_]; rfl); refine pure_ (i := 2) (N := some 13) (v := ?_) (a' := ?_) (tf 14 7) rfl rfl (by kernel_rfl) (fun _ _ _ h => h) (Or.inl ⟨by rfl, ?_⟩) ?_ ?_; rotate_left; (· intro w'; go_simp; (with_reducible rfl)); rotate_left; (· simp only [pn_]; rfl); refine pure_ (i := 4) (N := some 15) (v := ?_) (a' := ?_) (tf 14 23) rfl rfl (by kernel_rfl) (fun _ _ _ h => h) (Or.inl ⟨by rfl, ?_⟩) ?_ ?_; rotate_left; (· intro w'; go_simp; (with_reducible rfl)); rotate_left; (· simp only [pn_]; rfl); refine pure_ (i := 6) (N := some 17) (v := ?_) (a' := ?_) (tf 14 87) rfl rfl (by kernel_rfl) (fun _ _ _ h => h) (Or.inl ⟨by rfl, ?_⟩) ?_ ?_; rotate_left; (· intro w'; go_simp; (with_reducible rfl)); rotate_left; (· simp only [pn_]; rfl); refine pure_ (i := 7) (N := some 18) (v := ?_) (a' := ?_) (tf 14 215) rfl rfl (by kernel_rfl) (fun _ _ _ h => h) (Or.inl ⟨by rfl, ?_⟩) ?_ ?_; rotate_left; (· intro w'; go_simp; (with_reducible rfl)); rotate_left; (· simp only [pn_]; rfl); refine pure_ (i := 8) (N := some 19) (v := ?_) (a' := ?_) (tf 14 471) rfl rfl (by kernel_rfl) (fun _ _ _ h => h) (Or.inl ⟨by rfl, ?_⟩) ?_ ?_; rotate_left; (· intro w'; go_simp; (with_reducible rfl)); rotate_left; (· simp only [pn_]; rfl); refine pure_ (i := 10) (N := some 21) (v := ?_) (a' := ?_) (tf 14 1495) rfl rfl (by kernel_rfl) (fun _ _ _ h => h) (Or.inl ⟨by rfl, ?_⟩) ?_ ?_; rotate_left; (· intro w'; go_simp; (with_reducible rfl)); rotate_left; (· simp only [pn_]; rfl); refine take_ (i := 3) (N := some 14) (v := ?_) (a' := ?_) (tf 14 1503) rfl rfl (by kernel_rfl) (fun _ _ _ h => h) (Or.inl ⟨by rfl, ?_⟩) hHeld ?_ ?_; rotate_left; (· rintro w' ⟨s0, s1⟩; go_simp; (with_reducible rfl)); rotate_left; (· simp only [pn_]; rfl); refine take_ (i := 9) (N := some 20) (v := ?_) (a' := ?_) (tf 14 2015) rfl rfl (by kernel_rfl) (fun _ _ _ h => h) (Or.inl ⟨by rfl, ?_⟩) hHeld ?_ ?_; rotate_left; (· rintro w' ⟨s0, s1⟩; go_simp; (with_reducible rfl)); rotate_left; (· simp only [pn_]; rfl); refine one_ (i := 5) (N := some 16) (tf 14 2047) rfl rfl (by kernel_rfl) (by decide) (fun K hK => ?_); refine goes_ Tryz.func197 (by kernel_rfl) rfl #[.string pa, .int .i64 (d : Int)] (by rfl) rfl rfl (by simp only [List.map_toArray, List.map_cons, List.map_nil]; rfl) ?_; (with_reducible refine ((HA.out _)).mono ?_); rintro e' w1 ⟨rfl, rfl⟩; refine ⟨_, rfl, ?_⟩; refine hK.out _ _ ⟨hHeld.1, hHeld.2⟩ (fun hHeld => ?_); clear hK K; refine norm_ (a' := ?_) ?_ ?_; rotate_left; (· show Act.put _ (some 16) _ = _; simp only [pn_]; rfl); refine one_ (i := 11) (N := some 22) (tf 14 4095) rfl rfl (by kernel_rfl) (by decide) (fun K hK => ?_); refine goes_ Tryz.func197 (by kernel_rfl) rfl #[.string pb, .int .i64 (d : Int)] (by rfl) rfl rfl (by simp only [List.map_toArray, List.map_cons, List.map_nil]; rfl) ?_; (with_reducible refine ((HB.out _)).mono ?_); rintro e' w1 ⟨rfl, rfl⟩; refine ⟨_, rfl, ?_⟩; refine hK.out _ _ ⟨hHeld.1, hHeld.2⟩ (fun hHeld => ?_); clear hK K; refine norm_ (a' := ?_) ?_ ?_; rotate_left; (· show Act.put _ (some 22) _ = _; simp only [pn_]; rfl); refine pure_ (i := 12) (N := some 7) (v := ?_) (a' := ?_) (tf 14 8191) rfl rfl (by kernel_rfl) (fun _ _ _ h => h) (Or.inl ⟨by rfl, ?_⟩) ?_ ?_; rotate_left; (· intro w'; go_simp; (with_reducible rfl)); rotate_left; (· simp only [pn_]; rfl); refine pure_ (i := 13) (N := some 8) (v := ?_) (a' := ?_) (tf 14 16383) rfl rfl (by kernel_rfl) (fun _ _ _ h => h) (Or.inl ⟨by rfl, ?_⟩) ?_ ?_; rotate_left; (· intro w'; go_simp; (with_reducible rfl)); rotate_left; (· simp only [pn_]; rfl); refine done_ (by kernel_rfl) ?_
      clear HA HB ca cb
      have TL : Tree w.drew (.pointer (some ⟨ga, 0, none⟩)) (treeF f [a]) := by rw [treeF_one]; exact AA.out
      have TR : Tree w.drew (.pointer (some ⟨gb, 0, none⟩)) (treeF f [b]) := by rw [treeF_one]; exact BB.out
      have J2 := hid (joinT_any TT.out TL TR (fine_tree (by have := HD'.out; omega) G0.out (by simp)) (fine_tree (by have := HD'.out; omega) G1.out (by simp)))
      have BW := hid (show Below w.heap.size w w.drew from (Below.refl _ _).drew)
      clear TL TR
      go_wp2_with fail
      refine J2.out.mono ?_
      rintro e w3 ⟨v3, rfl, t3, b3⟩
      rw [HJ.out] at t3
      have B3 := below_then BW.out b3
      clear J2
      go_wp2
      go_ret
      exact ⟨v3, rfl, t3, B3⟩
    · have HA := hid (bit_is (by omega) h1)
      have HB := hid (bit_is (by omega) h2)
      simp only [h1, h2, if_true, List.cons_append, List.nil_append, show (0 : Int) ≠ 1 by decide, show (1 : Int) ≠ 0 by decide, if_false, List.append_nil] at J g0 g1
      have HJ := hid J
      have G0 := hid g0
      have G1 := hid g1
      obtain ⟨pa, hpa⟩ : ∃ p, p = pathS a.key := ⟨_, rfl⟩
      obtain ⟨pb, hpb⟩ : ∃ p, p = pathS b.key := ⟨_, rfl⟩
      rw [← hpa] at ca HA
      rw [← hpb] at cb HB
      clear h1 h2 J g0 g1 hpa hpb
      go_enter Tryz.func208, Tryz.ntmps208
      go_wp2
      refine start_ (n := 14) (S := fun w' => w'.cell? ⟨ga, 2, none⟩ = some (.string pa) ∧ w'.cell? ⟨gb, 2, none⟩ = some (.string pb)) (ds := []) (tf 14 0) (by kernel_rfl) rfl rfl ⟨ca, cb⟩ (fun hHeld => ?_); refine pure_ (i := 0) (N := some 11) (v := ?_) (a' := ?_) (tf 14 1) rfl rfl (by kernel_rfl) (fun _ _ _ h => h) (Or.inl ⟨by rfl, ?_⟩) ?_ ?_; rotate_left; (· intro w'; go_simp; (with_reducible rfl)); rotate_left; (· simp only [pn_]; rfl); refine pure_ (i := 1) (N := some 12) (v := ?_) (a' := ?_) (tf 14 3) rfl rfl (by kernel_rfl) (fun _ _ _ h => h) (Or.inl ⟨by rfl, ?_⟩) ?_ ?_; rotate_left; (· intro w'; go_simp; (with_reducible rfl)); rotate_left; (· simp only [pn_]; rfl); refine pure_ (i := 2) (N := some 13) (v := ?_) (a' := ?_) (tf 14 7) rfl rfl (by kernel_rfl) (fun _ _ _ h => h) (Or.inl ⟨by rfl, ?_⟩) ?_ ?_; rotate_left; (· intro w'; go_simp; (with_reducible rfl)); rotate_left; (· simp only [pn_]; rfl); refine pure_ (i := 4) (N := some 15) (v := ?_) (a' := ?_) (tf 14 23) rfl rfl (by kernel_rfl) (fun _ _ _ h => h) (Or.inl ⟨by rfl, ?_⟩) ?_ ?_; rotate_left; (· intro w'; go_simp; (with_reducible rfl)); rotate_left; (· simp only [pn_]; rfl); refine pure_ (i := 6) (N := some 17) (v := ?_) (a' := ?_) (tf 14 87) rfl rfl (by kernel_rfl) (fun _ _ _ h => h) (Or.inl ⟨by rfl, ?_⟩) ?_ ?_; rotate_left; (· intro w'; go_simp; (with_reducible rfl)); rotate_left; (· simp only [pn_]; rfl); refine pure_ (i := 7) (N := some 18) (v := ?_) (a' := ?_) (tf 14 215) rfl rfl (by kernel_rfl) (fun _ _ _ h => h) (Or.inl ⟨by rfl, ?_⟩) ?_ ?_; rotate_left; (· intro w'; go_simp; (with_reducible rfl)); rotate_left; (· simp only [pn_]; rfl); refine pure_ (i := 8) (N := some 19) (v := ?_) (a' := ?_) (tf 14 471) rfl rfl (by kernel_rfl) (fun _ _ _ h => h) (Or.inl ⟨by rfl, ?_⟩) ?_ ?_; rotate_left; (· intro w'; go_simp; (with_reducible rfl)); rotate_left; (· simp only [pn_]; rfl); refine pure_ (i := 10) (N := some 21) (v := ?_) (a' := ?_) (tf 14 1495) rfl rfl (by kernel_rfl) (fun _ _ _ h => h) (Or.inl ⟨by rfl, ?_⟩) ?_ ?_; rotate_left; (· intro w'; go_simp; (with_reducible rfl)); rotate_left; (· simp only [pn_]; rfl); refine take_ (i := 3) (N := some 14) (v := ?_) (a' := ?_) (tf 14 1503) rfl rfl (by kernel_rfl) (fun _ _ _ h => h) (Or.inl ⟨by rfl, ?_⟩) hHeld ?_ ?_; rotate_left; (· rintro w' ⟨s0, s1⟩; go_simp; (with_reducible rfl)); rotate_left; (· simp only [pn_]; rfl); refine take_ (i := 9) (N := some 20) (v := ?_) (a' := ?_) (tf 14 2015) rfl rfl (by kernel_rfl) (fun _ _ _ h => h) (Or.inl ⟨by rfl, ?_⟩) hHeld ?_ ?_; rotate_left; (· rintro w' ⟨s0, s1⟩; go_simp; (with_reducible rfl)); rotate_left; (· simp only [pn_]; rfl); refine one_ (i := 5) (N := some 16) (tf 14 2047) rfl rfl (by kernel_rfl) (by decide) (fun K hK => ?_); refine goes_ Tryz.func197 (by kernel_rfl) rfl #[.string pa, .int .i64 (d : Int)] (by rfl) rfl rfl (by simp only [List.map_toArray, List.map_cons, List.map_nil]; rfl) ?_; (with_reducible refine ((HA.out _)).mono ?_); rintro e' w1 ⟨rfl, rfl⟩; refine ⟨_, rfl, ?_⟩; refine hK.out _ _ ⟨hHeld.1, hHeld.2⟩ (fun hHeld => ?_); clear hK K; refine norm_ (a' := ?_) ?_ ?_; rotate_left; (· show Act.put _ (some 16) _ = _; simp only [pn_]; rfl); refine one_ (i := 11) (N := some 22) (tf 14 4095) rfl rfl (by kernel_rfl) (by decide) (fun K hK => ?_); refine goes_ Tryz.func197 (by kernel_rfl) rfl #[.string pb, .int .i64 (d : Int)] (by rfl) rfl rfl (by simp only [List.map_toArray, List.map_cons, List.map_nil]; rfl) ?_; (with_reducible refine ((HB.out _)).mono ?_); rintro e' w1 ⟨rfl, rfl⟩; refine ⟨_, rfl, ?_⟩; refine hK.out _ _ ⟨hHeld.1, hHeld.2⟩ (fun hHeld => ?_); clear hK K; refine norm_ (a' := ?_) ?_ ?_; rotate_left; (· show Act.put _ (some 22) _ = _; simp only [pn_]; rfl); refine pure_ (i := 12) (N := some 7) (v := ?_) (a' := ?_) (tf 14 8191) rfl rfl (by kernel_rfl) (fun _ _ _ h => h) (Or.inl ⟨by rfl, ?_⟩) ?_ ?_; rotate_left; (· intro w'; go_simp; (with_reducible rfl)); rotate_left; (· simp only [pn_]; rfl); refine pure_ (i := 13) (N := some 8) (v := ?_) (a' := ?_) (tf 14 16383) rfl rfl (by kernel_rfl) (fun _ _ _ h => h) (Or.inl ⟨by rfl, ?_⟩) ?_ ?_; rotate_left; (· intro w'; go_simp; (with_reducible rfl)); rotate_left; (· simp only [pn_]; rfl); refine done_ (by kernel_rfl) ?_
      clear HA HB ca cb
      have TL : Tree w.drew (.pointer (some ⟨gb, 0, none⟩)) (treeF f [b]) := by rw [treeF_one]; exact BB.out
      have TR : Tree w.drew (.pointer (some ⟨ga, 0, none⟩)) (treeF f [a]) := by rw [treeF_one]; exact AA.out
      have J2 := hid (joinT_any TT.out TL TR (fine_tree (by have := HD'.out; omega) G0.out (by simp)) (fine_tree (by have := HD'.out; omega) G1.out (by simp)))
      have BW := hid (show Below w.heap.size w w.drew from (Below.refl _ _).drew)
      clear TL TR
      go_wp2_with fail
      refine J2.out.mono ?_
      rintro e w3 ⟨v3, rfl, t3, b3⟩
      rw [HJ.out] at t3
      have B3 := below_then BW.out b3
      clear J2
      go_wp2
      go_ret
      exact ⟨v3, rfl, t3, B3⟩
    · have HA := hid (bit_is (by omega) h1)
      have HB := hid (bit_is (by omega) h2)
      simp only [h1, h2, if_true, List.cons_append, List.nil_append, show (0 : Int) ≠ 1 by decide, show (1 : Int) ≠ 0 by decide, if_false, List.append_nil] at J g0 g1
      have HJ := hid J
      have G0 := hid g0
      have G1 := hid g1
      obtain ⟨pa, hpa⟩ : ∃ p, p = pathS a.key := ⟨_, rfl⟩
      obtain ⟨pb, hpb⟩ : ∃ p, p = pathS b.key := ⟨_, rfl⟩
      rw [← hpa] at ca HA
      rw [← hpb] at cb HB
      clear h1 h2 J g0 g1 hpa hpb
      go_enter Tryz.func208, Tryz.ntmps208
      go_wp2
      refine start_ (n := 14) (S := fun w' => w'.cell? ⟨ga, 2, none⟩ = some (.string pa) ∧ w'.cell? ⟨gb, 2, none⟩ = some (.string pb)) (ds := []) (tf 14 0) (by kernel_rfl) rfl rfl ⟨ca, cb⟩ (fun hHeld => ?_); refine pure_ (i := 0) (N := some 11) (v := ?_) (a' := ?_) (tf 14 1) rfl rfl (by kernel_rfl) (fun _ _ _ h => h) (Or.inl ⟨by rfl, ?_⟩) ?_ ?_; rotate_left; (· intro w'; go_simp; (with_reducible rfl)); rotate_left; (· simp only [pn_]; rfl); refine pure_ (i := 1) (N := some 12) (v := ?_) (a' := ?_) (tf 14 3) rfl rfl (by kernel_rfl) (fun _ _ _ h => h) (Or.inl ⟨by rfl, ?_⟩) ?_ ?_; rotate_left; (· intro w'; go_simp; (with_reducible rfl)); rotate_left; (· simp only [pn_]; rfl); refine pure_ (i := 2) (N := some 13) (v := ?_) (a' := ?_) (tf 14 7) rfl rfl (by kernel_rfl) (fun _ _ _ h => h) (Or.inl ⟨by rfl, ?_⟩) ?_ ?_; rotate_left; (· intro w'; go_simp; (with_reducible rfl)); rotate_left; (· simp only [pn_]; rfl); refine pure_ (i := 4) (N := some 15) (v := ?_) (a' := ?_) (tf 14 23) rfl rfl (by kernel_rfl) (fun _ _ _ h => h) (Or.inl ⟨by rfl, ?_⟩) ?_ ?_; rotate_left; (· intro w'; go_simp; (with_reducible rfl)); rotate_left; (· simp only [pn_]; rfl); refine pure_ (i := 6) (N := some 17) (v := ?_) (a' := ?_) (tf 14 87) rfl rfl (by kernel_rfl) (fun _ _ _ h => h) (Or.inl ⟨by rfl, ?_⟩) ?_ ?_; rotate_left; (· intro w'; go_simp; (with_reducible rfl)); rotate_left; (· simp only [pn_]; rfl); refine pure_ (i := 7) (N := some 18) (v := ?_) (a' := ?_) (tf 14 215) rfl rfl (by kernel_rfl) (fun _ _ _ h => h) (Or.inl ⟨by rfl, ?_⟩) ?_ ?_; rotate_left; (· intro w'; go_simp; (with_reducible rfl)); rotate_left; (· simp only [pn_]; rfl); refine pure_ (i := 8) (N := some 19) (v := ?_) (a' := ?_) (tf 14 471) rfl rfl (by kernel_rfl) (fun _ _ _ h => h) (Or.inl ⟨by rfl, ?_⟩) ?_ ?_; rotate_left; (· intro w'; go_simp; (with_reducible rfl)); rotate_left; (· simp only [pn_]; rfl); refine pure_ (i := 10) (N := some 21) (v := ?_) (a' := ?_) (tf 14 1495) rfl rfl (by kernel_rfl) (fun _ _ _ h => h) (Or.inl ⟨by rfl, ?_⟩) ?_ ?_; rotate_left; (· intro w'; go_simp; (with_reducible rfl)); rotate_left; (· simp only [pn_]; rfl); refine take_ (i := 3) (N := some 14) (v := ?_) (a' := ?_) (tf 14 1503) rfl rfl (by kernel_rfl) (fun _ _ _ h => h) (Or.inl ⟨by rfl, ?_⟩) hHeld ?_ ?_; rotate_left; (· rintro w' ⟨s0, s1⟩; go_simp; (with_reducible rfl)); rotate_left; (· simp only [pn_]; rfl); refine take_ (i := 9) (N := some 20) (v := ?_) (a' := ?_) (tf 14 2015) rfl rfl (by kernel_rfl) (fun _ _ _ h => h) (Or.inl ⟨by rfl, ?_⟩) hHeld ?_ ?_; rotate_left; (· rintro w' ⟨s0, s1⟩; go_simp; (with_reducible rfl)); rotate_left; (· simp only [pn_]; rfl); refine one_ (i := 5) (N := some 16) (tf 14 2047) rfl rfl (by kernel_rfl) (by decide) (fun K hK => ?_); refine goes_ Tryz.func197 (by kernel_rfl) rfl #[.string pa, .int .i64 (d : Int)] (by rfl) rfl rfl (by simp only [List.map_toArray, List.map_cons, List.map_nil]; rfl) ?_; (with_reducible refine ((HA.out _)).mono ?_); rintro e' w1 ⟨rfl, rfl⟩; refine ⟨_, rfl, ?_⟩; refine hK.out _ _ ⟨hHeld.1, hHeld.2⟩ (fun hHeld => ?_); clear hK K; refine norm_ (a' := ?_) ?_ ?_; rotate_left; (· show Act.put _ (some 16) _ = _; simp only [pn_]; rfl); refine one_ (i := 11) (N := some 22) (tf 14 4095) rfl rfl (by kernel_rfl) (by decide) (fun K hK => ?_); refine goes_ Tryz.func197 (by kernel_rfl) rfl #[.string pb, .int .i64 (d : Int)] (by rfl) rfl rfl (by simp only [List.map_toArray, List.map_cons, List.map_nil]; rfl) ?_; (with_reducible refine ((HB.out _)).mono ?_); rintro e' w1 ⟨rfl, rfl⟩; refine ⟨_, rfl, ?_⟩; refine hK.out _ _ ⟨hHeld.1, hHeld.2⟩ (fun hHeld => ?_); clear hK K; refine norm_ (a' := ?_) ?_ ?_; rotate_left; (· show Act.put _ (some 22) _ = _; simp only [pn_]; rfl); refine pure_ (i := 12) (N := some 7) (v := ?_) (a' := ?_) (tf 14 8191) rfl rfl (by kernel_rfl) (fun _ _ _ h => h) (Or.inl ⟨by rfl, ?_⟩) ?_ ?_; rotate_left; (· intro w'; go_simp; (with_reducible rfl)); rotate_left; (· simp only [pn_]; rfl); refine pure_ (i := 13) (N := some 8) (v := ?_) (a' := ?_) (tf 14 16383) rfl rfl (by kernel_rfl) (fun _ _ _ h => h) (Or.inl ⟨by rfl, ?_⟩) ?_ ?_; rotate_left; (· intro w'; go_simp; (with_reducible rfl)); rotate_left; (· simp only [pn_]; rfl); refine done_ (by kernel_rfl) ?_
      clear HA HB ca cb
      have R0 := IH.out _ _ _ _ _ _ TT.out AA.out BB.out G1.out HD'.out
      rw [show ((d + 1 : Nat) : Int) = (d : Int) + 1 by omega] at R0
      have R := hid R0
      clear R0
      go_wp2_with fail
      refine R.out.mono ?_
      rintro e w2 ⟨v2, rfl, t2, b2⟩
      have TL : Tree w2 (.pointer none) (treeF f []) := by rw [treeF_nil]; exact Tree.nil w2
      have TR : Tree w2 v2 (treeF f [a, b]) := t2
      have J2 := hid (joinT_any (TT.out.below b2) TL TR (fine_tree (by have := HD'.out; omega) G0.out (by simp)) (fine_tree (by have := HD'.out; omega) G1.out (by simp)))
      have BW := hid (below_then (show Below w.heap.size w w.drew from (Below.refl _ _).drew) b2)
      clear R t2 b2 TL TR
      go_wp2_with fail
      refine J2.out.mono ?_
      rintro e w3 ⟨v3, rfl, t3, b3⟩
      rw [HJ.out] at t3
      have B3 := below_then BW.out b3
      clear J2
      go_wp2
      go_ret
      exact ⟨v3, rfl, t3, B3⟩
theorem path_eq {a b : ByteArray} : pathS a = pathS b ↔ pathK a = pathK b := by
  constructor
  · intro h; exact strB_inj h
  · intro h; show strB (pathK a) = strB (pathK b); rw [h]
set_option maxRecDepth 100000 in
set_option maxHeartbeats 12800000 in
theorem put_nil {w : World} {vx : Value} {d : Int} : Calls Tryz.prog 171 #[.pointer none, vx, .int .i64 d] w fun e w' => e = .returned vx ∧ Below w.heap.size w w' := by
  go_enter Tryz.func171, Tryz.ntmps171
  go_wp2
  refine start_ (n := 18) (S := fun w' => True) (ds := []) (tf 18 0) (by kernel_rfl) rfl rfl trivial (fun hHeld => ?_); refine pure_ (i := 0) (N := some 8) (v := ?_) (a' := ?_) (tf 18 1) rfl rfl (by kernel_rfl) (fun _ _ _ h => h) (Or.inl ⟨by rfl, ?_⟩) ?_ ?_; rotate_left; (· intro w'; go_simp; (with_reducible rfl)); rotate_left; (· simp only [pn_]; rfl); refine pure_ (i := 1) (N := some 9) (v := ?_) (a' := ?_) (tf 18 3) rfl rfl (by kernel_rfl) (fun _ _ _ h => h) (Or.inl ⟨by rfl, ?_⟩) ?_ ?_; rotate_left; (· intro w'; go_simp; (with_reducible rfl)); rotate_left; (· simp only [pn_]; rfl); refine pure_ (i := 2) (N := some 10) (v := ?_) (a' := ?_) (tf 18 7) rfl rfl (by kernel_rfl) (fun _ _ _ h => h) (Or.inl ⟨by rfl, ?_⟩) ?_ ?_; rotate_left; (· intro w'; go_simp; (with_reducible rfl)); rotate_left; (· simp only [pn_]; rfl); refine pure_ (i := 3) (N := some 11) (v := undef) (a' := ?_) (tf 18 15) rfl rfl (by kernel_rfl) (fun _ _ _ h => h) (Or.inr ⟨by rfl, rfl⟩) ?_ ?_; rotate_left; (· simp only [pn_]; rfl); refine pure_ (i := 4) (N := some 12) (v := undef) (a' := ?_) (tf 18 31) rfl rfl (by kernel_rfl) (fun _ _ _ h => h) (Or.inr ⟨by rfl, rfl⟩) ?_ ?_; rotate_left; (· simp only [pn_]; rfl); refine pure_ (i := 5) (N := some 13) (v := undef) (a' := ?_) (tf 18 63) rfl rfl (by kernel_rfl) (fun _ _ _ h => h) (Or.inr ⟨by rfl, rfl⟩) ?_ ?_; rotate_left; (· simp only [pn_]; rfl); refine pure_ (i := 6) (N := some 14) (v := undef) (a' := ?_) (tf 18 127) rfl rfl (by kernel_rfl) (fun _ _ _ h => h) (Or.inr ⟨by rfl, rfl⟩) ?_ ?_; rotate_left; (· simp only [pn_]; rfl); refine pure_ (i := 7) (N := some 15) (v := undef) (a' := ?_) (tf 18 255) rfl rfl (by kernel_rfl) (fun _ _ _ h => h) (Or.inr ⟨by rfl, rfl⟩) ?_ ?_; rotate_left; (· simp only [pn_]; rfl); refine pure_ (i := 8) (N := some 16) (v := undef) (a' := ?_) (tf 18 511) rfl rfl (by kernel_rfl) (fun _ _ _ h => h) (Or.inr ⟨by rfl, rfl⟩) ?_ ?_; rotate_left; (· simp only [pn_]; rfl); refine pure_ (i := 9) (N := some 17) (v := undef) (a' := ?_) (tf 18 1023) rfl rfl (by kernel_rfl) (fun _ _ _ h => h) (Or.inr ⟨by rfl, rfl⟩) ?_ ?_; rotate_left; (· simp only [pn_]; rfl); refine pure_ (i := 10) (N := some 18) (v := undef) (a' := ?_) (tf 18 2047) rfl rfl (by kernel_rfl) (fun _ _ _ h => h) (Or.inr ⟨by rfl, rfl⟩) ?_ ?_; rotate_left; (· simp only [pn_]; rfl); refine pure_ (i := 11) (N := some 19) (v := undef) (a' := ?_) (tf 18 4095) rfl rfl (by kernel_rfl) (fun _ _ _ h => h) (Or.inr ⟨by rfl, rfl⟩) ?_ ?_; rotate_left; (· simp only [pn_]; rfl); refine pure_ (i := 12) (N := some 20) (v := undef) (a' := ?_) (tf 18 8191) rfl rfl (by kernel_rfl) (fun _ _ _ h => h) (Or.inr ⟨by rfl, rfl⟩) ?_ ?_; rotate_left; (· simp only [pn_]; rfl); refine pure_ (i := 13) (N := some 21) (v := undef) (a' := ?_) (tf 18 16383) rfl rfl (by kernel_rfl) (fun _ _ _ h => h) (Or.inr ⟨by rfl, rfl⟩) ?_ ?_; rotate_left; (· simp only [pn_]; rfl); refine pure_ (i := 14) (N := some 22) (v := undef) (a' := ?_) (tf 18 32767) rfl rfl (by kernel_rfl) (fun _ _ _ h => h) (Or.inr ⟨by rfl, rfl⟩) ?_ ?_; rotate_left; (· simp only [pn_]; rfl); refine pure_ (i := 15) (N := some 23) (v := undef) (a' := ?_) (tf 18 65535) rfl rfl (by kernel_rfl) (fun _ _ _ h => h) (Or.inr ⟨by rfl, rfl⟩) ?_ ?_; rotate_left; (· simp only [pn_]; rfl); refine pure_ (i := 16) (N := some 24) (v := ?_) (a' := ?_) (tf 18 131071) rfl rfl (by kernel_rfl) (fun _ _ _ h => h) (Or.inl ⟨by rfl, ?_⟩) ?_ ?_; rotate_left; (· intro w'; go_simp; (with_reducible rfl)); rotate_left; (· simp only [pn_]; rfl); refine pure_ (i := 17) (N := some 7) (v := ?_) (a' := ?_) (tf 18 262143) rfl rfl (by kernel_rfl) (fun _ _ _ h => h) (Or.inl ⟨by rfl, ?_⟩) ?_ ?_; rotate_left; (· intro w'; go_simp; (with_reducible rfl)); rotate_left; (· simp only [pn_]; rfl); refine done_ (by kernel_rfl) ?_
  go_wp2
  go_ret
  exact ⟨rfl, (Below.refl _ _).drew⟩
set_option maxRecDepth 100000 in
set_option maxHeartbeats 12800000 in
theorem put_leaf {w : World} (hT : Table w) {v vx : Value} {y x : Itm} {f d : Nat} (hv : Tree w v (.leaf y)) (hx : Tree w vx (.leaf x)) (hd : d + f = 256) (hg : pathK y.key ≠ pathK x.key → Good f [y, x]) :
    Calls Tryz.prog 171 #[v, vx, .int .i64 (d : Int)] w (Grew w (if pathK y.key = pathK x.key then .leaf x else treeF f [y, x])) := by
  have HS : Hid (∀ w', Below w.heap.size w w' → Calls Tryz.prog 193 #[v] w' fun e w'' => e = .returned (.bool true) ∧ w' = w'') := hid (fun w' h => single_leaf (Tree.below hv h))
  have TT := hid hT
  have VV := hid hv
  have XX := hid hx
  have HD := hid hd
  have HG := hid hg
  obtain ⟨ga, Ba, da, rfl, _, h3a, _⟩ := hv
  obtain ⟨gb, Bb, db, rfl, _, h3b, _⟩ := hx
  obtain ⟨-, -, ca, -, -, -, -⟩ := seven h3a
  obtain ⟨-, -, cb, -, -, -, -⟩ := seven h3b
  have B0 := hid (show Below w.heap.size w w.drew from (Below.refl _ _).drew)
  clear hT h3a h3b hd hg
  by_cases h : pathK y.key = pathK x.key
  · rw [if_pos h]
    have ht : ((pathS y.key).toList == (pathS x.key).toList) = true := by rw [path_eq.2 h]; simp
    obtain ⟨pa, hpa⟩ : ∃ p, p = pathS y.key := ⟨_, rfl⟩
    obtain ⟨pb, hpb⟩ : ∃ p, p = pathS x.key := ⟨_, rfl⟩
    rw [← hpa] at ca ht
    rw [← hpb] at cb ht
    clear h hpa hpb
    go_enter Tryz.func171, Tryz.ntmps171
    go_wp2
    refine start_ (n := 18) (S := fun w' => w'.cell? ⟨ga, 2, none⟩ = some (.string pa) ∧ w'.cell? ⟨gb, 2, none⟩ = some (.string pb)) (ds := []) (tf 18 0) (by kernel_rfl) rfl rfl ⟨ca, cb⟩ (fun hHeld => ?_); refine pure_ (i := 0) (N := some 8) (v := ?_) (a' := ?_) (tf 18 1) rfl rfl (by kernel_rfl) (fun _ _ _ h => h) (Or.inl ⟨by rfl, ?_⟩) ?_ ?_; rotate_left; (· intro w'; go_simp; (with_reducible rfl)); rotate_left; (· simp only [pn_]; rfl); refine pure_ (i := 1) (N := some 9) (v := ?_) (a' := ?_) (tf 18 3) rfl rfl (by kernel_rfl) (fun _ _ _ h => h) (Or.inl ⟨by rfl, ?_⟩) ?_ ?_; rotate_left; (· intro w'; go_simp; (with_reducible rfl)); rotate_left; (· simp only [pn_]; rfl); refine pure_ (i := 2) (N := some 10) (v := ?_) (a' := ?_) (tf 18 7) rfl rfl (by kernel_rfl) (fun _ _ _ h => h) (Or.inl ⟨by rfl, ?_⟩) ?_ ?_; rotate_left; (· intro w'; go_simp; (with_reducible rfl)); rotate_left; (· simp only [pn_]; rfl); refine pure_ (i := 3) (N := some 11) (v := ?_) (a' := ?_) (tf 18 15) rfl rfl (by kernel_rfl) (fun _ _ _ h => h) (Or.inl ⟨by rfl, ?_⟩) ?_ ?_; rotate_left; (· intro w'; go_simp; (with_reducible rfl)); rotate_left; (· simp only [pn_]; rfl); refine one_ (i := 4) (N := some 12) (tf 18 31) rfl rfl (by kernel_rfl) (by decide) (fun K hK => ?_); refine goes_ Tryz.func193 (by kernel_rfl) rfl #[.pointer (some ⟨ga, 0, none⟩)] (by rfl) rfl rfl (by simp only [List.map_toArray, List.map_cons, List.map_nil]; rfl) ?_; (with_reducible refine ((HS.out _ B0.out)).mono ?_); rintro e' w1 ⟨rfl, rfl⟩; refine ⟨_, rfl, ?_⟩; refine hK.out _ _ ⟨hHeld.1, hHeld.2⟩ (fun hHeld => ?_); clear hK K; refine norm_ (a' := ?_) ?_ ?_; rotate_left; (· show Act.put _ (some 12) _ = _; simp only [pn_]; rfl); refine pure_ (i := 5) (N := some 13) (v := ?_) (a' := ?_) (tf 18 63) rfl rfl (by kernel_rfl) (fun _ _ _ h => h) (Or.inl ⟨by rfl, ?_⟩) ?_ ?_; rotate_left; (· intro w'; go_simp; (with_reducible rfl)); rotate_left; (· simp only [pn_]; rfl); refine pure_ (i := 6) (N := some 14) (v := ?_) (a' := ?_) (tf 18 127) rfl rfl (by kernel_rfl) (fun _ _ _ h => h) (Or.inl ⟨by rfl, ?_⟩) ?_ ?_; rotate_left; (· intro w'; go_simp; (with_reducible rfl)); rotate_left; (· simp only [pn_]; rfl); refine pure_ (i := 7) (N := some 15) (v := ?_) (a' := ?_) (tf 18 255) rfl rfl (by kernel_rfl) (fun _ _ _ h => h) (Or.inl ⟨by rfl, ?_⟩) ?_ ?_; rotate_left; (· intro w'; go_simp; (with_reducible rfl)); rotate_left; (· simp only [pn_]; rfl); refine pure_ (i := 8) (N := some 16) (v := ?_) (a' := ?_) (tf 18 511) rfl rfl (by kernel_rfl) (fun _ _ _ h => h) (Or.inl ⟨by rfl, ?_⟩) ?_ ?_; rotate_left; (· intro w'; go_simp; (with_reducible rfl)); rotate_left; (· simp only [pn_]; rfl); refine pure_ (i := 10) (N := some 18) (v := ?_) (a' := ?_) (tf 18 1535) rfl rfl (by kernel_rfl) (fun _ _ _ h => h) (Or.inl ⟨by rfl, ?_⟩) ?_ ?_; rotate_left; (· intro w'; go_simp; (with_reducible rfl)); rotate_left; (· simp only [pn_]; rfl); refine pure_ (i := 11) (N := some 19) (v := ?_) (a' := ?_) (tf 18 3583) rfl rfl (by kernel_rfl) (fun _ _ _ h => h) (Or.inl ⟨by rfl, ?_⟩) ?_ ?_; rotate_left; (· intro w'; go_simp; (with_reducible rfl)); rotate_left; (· simp only [pn_]; rfl); refine pure_ (i := 12) (N := some 20) (v := ?_) (a' := ?_) (tf 18 7679) rfl rfl (by kernel_rfl) (fun _ _ _ h => h) (Or.inl ⟨by rfl, ?_⟩) ?_ ?_; rotate_left; (· intro w'; go_simp; (with_reducible rfl)); rotate_left; (· simp only [pn_]; rfl); refine take_ (i := 9) (N := some 17) (v := ?_) (a' := ?_) (tf 18 8191) rfl rfl (by kernel_rfl) (fun _ _ _ h => h) (Or.inl ⟨by rfl, ?_⟩) hHeld ?_ ?_; rotate_left; (· rintro w' ⟨s0, s1⟩; go_simp; (with_reducible rfl)); rotate_left; (· simp only [pn_]; rfl); refine take_ (i := 13) (N := some 21) (v := ?_) (a' := ?_) (tf 18 16383) rfl rfl (by kernel_rfl) (fun _ _ _ h => h) (Or.inl ⟨by rfl, ?_⟩) hHeld ?_ ?_; rotate_left; (· rintro w' ⟨s0, s1⟩; go_simp; (with_reducible rfl)); rotate_left; (· simp only [pn_]; rfl); refine pure_ (i := 14) (N := some 22) (v := ?_) (a' := ?_) (tf 18 32767) rfl rfl (by kernel_rfl) (fun _ _ _ h => h) (Or.inl ⟨by rfl, ?_⟩) ?_ ?_; rotate_left; (· intro w'; go_simp; (with_reducible rfl)); rotate_left; (· simp only [pn_]; rfl); refine pure_ (i := 15) (N := some 23) (v := ?_) (a' := ?_) (tf 18 65535) rfl rfl (by kernel_rfl) (fun _ _ _ h => h) (Or.inl ⟨by rfl, ?_⟩) ?_ ?_; rotate_left; (· intro w'; go_simp; (with_reducible rfl)); rotate_left; (· simp only [pn_]; rfl); refine pure_ (i := 16) (N := some 24) (v := ?_) (a' := ?_) (tf 18 131071) rfl rfl (by kernel_rfl) (fun _ _ _ h => h) (Or.inl ⟨by rfl, ?_⟩) ?_ ?_; rotate_left; (· intro w'; go_simp; (with_reducible rfl)); rotate_left; (· simp only [pn_]; rfl); refine pure_ (i := 17) (N := some 7) (v := ?_) (a' := ?_) (tf 18 262143) rfl rfl (by kernel_rfl) (fun _ _ _ h => h) (Or.inl ⟨by rfl, ?_⟩) ?_ ?_; rotate_left; (· intro w'; go_simp; (with_reducible rfl)); rotate_left; (· simp only [pn_]; rfl); refine done_ (by kernel_rfl) ?_
    have FX := hid (Tree.below XX.out B0.out)
    go_wp2
    go_ret
    exact ⟨_, rfl, FX.out, B0.out⟩
  · rw [if_neg h]
    have ht : ((pathS y.key).toList == (pathS x.key).toList) = false := by rw [str_beq]; simp; intro e; exact h (path_eq.1 e)
    have APW := hid (apart_walk f _ _ _ _ _ _ (TT.out.below B0.out) (Tree.below VV.out B0.out) (Tree.below XX.out B0.out) (HG.out h) HD.out)
    obtain ⟨pa, hpa⟩ : ∃ p, p = pathS y.key := ⟨_, rfl⟩
    obtain ⟨pb, hpb⟩ : ∃ p, p = pathS x.key := ⟨_, rfl⟩
    rw [← hpa] at ca ht
    rw [← hpb] at cb ht
    clear h hpa hpb
    go_enter Tryz.func171, Tryz.ntmps171
    go_wp2
    refine start_ (n := 18) (S := fun w' => w'.cell? ⟨ga, 2, none⟩ = some (.string pa) ∧ w'.cell? ⟨gb, 2, none⟩ = some (.string pb)) (ds := []) (tf 18 0) (by kernel_rfl) rfl rfl ⟨ca, cb⟩ (fun hHeld => ?_); refine pure_ (i := 0) (N := some 8) (v := ?_) (a' := ?_) (tf 18 1) rfl rfl (by kernel_rfl) (fun _ _ _ h => h) (Or.inl ⟨by rfl, ?_⟩) ?_ ?_; rotate_left; (· intro w'; go_simp; (with_reducible rfl)); rotate_left; (· simp only [pn_]; rfl); refine pure_ (i := 1) (N := some 9) (v := ?_) (a' := ?_) (tf 18 3) rfl rfl (by kernel_rfl) (fun _ _ _ h => h) (Or.inl ⟨by rfl, ?_⟩) ?_ ?_; rotate_left; (· intro w'; go_simp; (with_reducible rfl)); rotate_left; (· simp only [pn_]; rfl); refine pure_ (i := 2) (N := some 10) (v := ?_) (a' := ?_) (tf 18 7) rfl rfl (by kernel_rfl) (fun _ _ _ h => h) (Or.inl ⟨by rfl, ?_⟩) ?_ ?_; rotate_left; (· intro w'; go_simp; (with_reducible rfl)); rotate_left; (· simp only [pn_]; rfl); refine pure_ (i := 3) (N := some 11) (v := ?_) (a' := ?_) (tf 18 15) rfl rfl (by kernel_rfl) (fun _ _ _ h => h) (Or.inl ⟨by rfl, ?_⟩) ?_ ?_; rotate_left; (· intro w'; go_simp; (with_reducible rfl)); rotate_left; (· simp only [pn_]; rfl); refine one_ (i := 4) (N := some 12) (tf 18 31) rfl rfl (by kernel_rfl) (by decide) (fun K hK => ?_); refine goes_ Tryz.func193 (by kernel_rfl) rfl #[.pointer (some ⟨ga, 0, none⟩)] (by rfl) rfl rfl (by simp only [List.map_toArray, List.map_cons, List.map_nil]; rfl) ?_; (with_reducible refine ((HS.out _ B0.out)).mono ?_); rintro e' w1 ⟨rfl, rfl⟩; refine ⟨_, rfl, ?_⟩; refine hK.out _ _ ⟨hHeld.1, hHeld.2⟩ (fun hHeld => ?_); clear hK K; refine norm_ (a' := ?_) ?_ ?_; rotate_left; (· show Act.put _ (some 12) _ = _; simp only [pn_]; rfl); refine pure_ (i := 5) (N := some 13) (v := ?_) (a' := ?_) (tf 18 63) rfl rfl (by kernel_rfl) (fun _ _ _ h => h) (Or.inl ⟨by rfl, ?_⟩) ?_ ?_; rotate_left; (· intro w'; go_simp; (with_reducible rfl)); rotate_left; (· simp only [pn_]; rfl); refine pure_ (i := 6) (N := some 14) (v := ?_) (a' := ?_) (tf 18 127) rfl rfl (by kernel_rfl) (fun _ _ _ h => h) (Or.inl ⟨by rfl, ?_⟩) ?_ ?_; rotate_left; (· intro w'; go_simp; (with_reducible rfl)); rotate_left; (· simp only [pn_]; rfl); refine pure_ (i := 7) (N := some 15) (v := ?_) (a' := ?_) (tf 18 255) rfl rfl (by kernel_rfl) (fun _ _ _ h => h) (Or.inl ⟨by rfl, ?_⟩) ?_ ?_; rotate_left; (· intro w'; go_simp; (with_reducible rfl)); rotate_left; (· simp only [pn_]; rfl); refine pure_ (i := 8) (N := some 16) (v := ?_) (a' := ?_) (tf 18 511) rfl rfl (by kernel_rfl) (fun _ _ _ h => h) (Or.inl ⟨by rfl, ?_⟩) ?_ ?_; rotate_left; (· intro w'; go_simp; (with_reducible rfl)); rotate_left; (· simp only [pn_]; rfl); refine pure_ (i := 10) (N := some 18) (v := ?_) (a' := ?_) (tf 18 1535) rfl rfl (by kernel_rfl) (fun _ _ _ h => h) (Or.inl ⟨by rfl, ?_⟩) ?_ ?_; rotate_left; (· intro w'; go_simp; (with_reducible rfl)); rotate_left; (· simp only [pn_]; rfl); refine pure_ (i := 11) (N := some 19) (v := ?_) (a' := ?_) (tf 18 3583) rfl rfl (by kernel_rfl) (fun _ _ _ h => h) (Or.inl ⟨by rfl, ?_⟩) ?_ ?_; rotate_left; (· intro w'; go_simp; (with_reducible rfl)); rotate_left; (· simp only [pn_]; rfl); refine pure_ (i := 12) (N := some 20) (v := ?_) (a' := ?_) (tf 18 7679) rfl rfl (by kernel_rfl) (fun _ _ _ h => h) (Or.inl ⟨by rfl, ?_⟩) ?_ ?_; rotate_left; (· intro w'; go_simp; (with_reducible rfl)); rotate_left; (· simp only [pn_]; rfl); refine take_ (i := 9) (N := some 17) (v := ?_) (a' := ?_) (tf 18 8191) rfl rfl (by kernel_rfl) (fun _ _ _ h => h) (Or.inl ⟨by rfl, ?_⟩) hHeld ?_ ?_; rotate_left; (· rintro w' ⟨s0, s1⟩; go_simp; (with_reducible rfl)); rotate_left; (· simp only [pn_]; rfl); refine take_ (i := 13) (N := some 21) (v := ?_) (a' := ?_) (tf 18 16383) rfl rfl (by kernel_rfl) (fun _ _ _ h => h) (Or.inl ⟨by rfl, ?_⟩) hHeld ?_ ?_; rotate_left; (· rintro w' ⟨s0, s1⟩; go_simp; (with_reducible rfl)); rotate_left; (· simp only [pn_]; rfl); refine pure_ (i := 14) (N := some 22) (v := ?_) (a' := ?_) (tf 18 32767) rfl rfl (by kernel_rfl) (fun _ _ _ h => h) (Or.inl ⟨by rfl, ?_⟩) ?_ ?_; rotate_left; (· intro w'; go_simp; (with_reducible rfl)); rotate_left; (· simp only [pn_]; rfl); refine pure_ (i := 15) (N := some 23) (v := ?_) (a' := ?_) (tf 18 65535) rfl rfl (by kernel_rfl) (fun _ _ _ h => h) (Or.inl ⟨by rfl, ?_⟩) ?_ ?_; rotate_left; (· intro w'; go_simp; (with_reducible rfl)); rotate_left; (· simp only [pn_]; rfl); refine pure_ (i := 16) (N := some 24) (v := ?_) (a' := ?_) (tf 18 131071) rfl rfl (by kernel_rfl) (fun _ _ _ h => h) (Or.inl ⟨by rfl, ?_⟩) ?_ ?_; rotate_left; (· intro w'; go_simp; (with_reducible rfl)); rotate_left; (· simp only [pn_]; rfl); refine pure_ (i := 17) (N := some 7) (v := ?_) (a' := ?_) (tf 18 262143) rfl rfl (by kernel_rfl) (fun _ _ _ h => h) (Or.inl ⟨by rfl, ?_⟩) ?_ ?_; rotate_left; (· intro w'; go_simp; (with_reducible rfl)); rotate_left; (· simp only [pn_]; rfl); refine done_ (by kernel_rfl) ?_
    have HS2 := hid (HS.out _ B0.out)
    clear ca cb
    go_wp2_with fail
    refine HS2.out.mono ?_
    rintro e w1 ⟨rfl, rfl⟩
    clear HS2
    go_wp2_with fail
    refine APW.out.mono ?_
    rintro e w2 ⟨v2, rfl, t2, b2⟩
    have B2 := below_then B0.out b2
    go_wp2
    go_ret
    exact ⟨v2, rfl, t2, B2⟩
set_option maxRecDepth 100000 in
set_option maxHeartbeats 12800000 in
theorem put_node {w : World} (hT : Table w) {v vx : Value} {l r t' : Tr} {x : Itm} {f d : Nat} (hv : Tree w v (.node l r)) (hx : Tree w vx (.leaf x)) (hd : d + (f + 1) = 256) (fl : Fine l) (fr : Fine r) (ft : Fine t')
    (rec_ : ∀ (w' : World) (v' : Value), Table w' → Tree w' v' (if btK x.key d = 0 then l else r) → Tree w' vx (.leaf x) → Calls Tryz.prog 171 #[v', vx, .int .i64 ((d + 1 : Nat) : Int)] w' (Grew w' t')) :
    Calls Tryz.prog 171 #[v, vx, .int .i64 (d : Int)] w (Grew w (if btK x.key d = 0 then joinT t' r else joinT l t')) := by
  have TT := hid hT
  have VV := hid hv
  have XX := hid hx
  have HS : Hid (∀ w', Below w.heap.size w w' → Calls Tryz.prog 193 #[v] w' fun e w'' => e = .returned (.bool false) ∧ w' = w'') := hid (fun w' h => single_node (Tree.below hv h))
  have HH : Hid (∀ w', Below w.heap.size w w' → Calls Tryz.prog 194 #[v, .string (pathS x.key), .int .i64 (d : Int)] w' fun e w'' => ∃ v', e = .returned v' ∧ Tree w' v' (if btK x.key d = 0 then l else r) ∧ w' = w'') := hid (fun w' h => half_any (by omega) (Tree.below hv h))
  have RC : Hid (∀ (w' : World) (v' : Value), Table w' → Tree w' v' (if btK x.key d = 0 then l else r) → Tree w' vx (.leaf x) → Calls Tryz.prog 171 #[v', vx, .int .i64 ((d : Int) + 1)] w' (Grew w' t')) := hid (by
    intro w' v' h1 h2 h3
    have := rec_ _ _ h1 h2 h3
    rwa [show ((d + 1 : Nat) : Int) = (d : Int) + 1 by omega] at this)
  have HW : Hid (∀ w' v', Below w.heap.size w w' → Table w' → Tree w' v' t' → Calls Tryz.prog 207 #[v, .string (pathS x.key), .int .i64 (d : Int), v'] w' (Grew w' (if btK x.key d = 0 then joinT t' r else joinT l t'))) := hid (fun w' v' h h1 h2 => with_any h1 (by omega) (Tree.below hv h) h2 fl fr ft)
  obtain ⟨ga, va, vb, rfl, _⟩ := hv
  obtain ⟨gb, Bb, db, rfl, _, h3b, _⟩ := hx
  obtain ⟨-, -, cb, -, -, -, -⟩ := seven h3b
  have B0 := hid (show Below w.heap.size w w.drew from (Below.refl _ _).drew)
  have B00 := hid (show Below w.heap.size w w.drew.drew from (Below.refl _ _).drew.drew)
  obtain ⟨p, hp⟩ : ∃ p, p = pathS x.key := ⟨_, rfl⟩
  rw [← hp] at cb HH HW
  have hdb : d ≤ 256 := by omega
  have wd2 : IntKind.i64.wrap ((d : Int) + 1) = (d : Int) + 1 := IntWalk.i64_in _ (by omega)
  have wd1 : wrap64 ((d : Int) + 1) = (d : Int) + 1 := by unfold wrap64; omega
  have T2 := hid (TT.out.below B00.out)
  have V2 := hid (Tree.below XX.out B00.out)
  have HH2 := hid (HH.out _ B00.out)
  clear hT h3b hp rec_ fl fr ft hd
  generalize (if btK x.key d = 0 then joinT t' r else joinT l t') = RR at *
  generalize (if btK x.key d = 0 then l else r) = HF at *
  go_enter Tryz.func171, Tryz.ntmps171
  go_wp2
  refine start_ (n := 18) (S := fun w' => w'.cell? ⟨gb, 2, none⟩ = some (.string p)) (ds := []) (tf 18 0) (by kernel_rfl) rfl rfl (cb) (fun hHeld => ?_); refine pure_ (i := 0) (N := some 8) (v := ?_) (a' := ?_) (tf 18 1) rfl rfl (by kernel_rfl) (fun _ _ _ h => h) (Or.inl ⟨by rfl, ?_⟩) ?_ ?_; rotate_left; (· intro w'; go_simp; (with_reducible rfl)); rotate_left; (· simp only [pn_]; rfl); refine pure_ (i := 1) (N := some 9) (v := ?_) (a' := ?_) (tf 18 3) rfl rfl (by kernel_rfl) (fun _ _ _ h => h) (Or.inl ⟨by rfl, ?_⟩) ?_ ?_; rotate_left; (· intro w'; go_simp; (with_reducible rfl)); rotate_left; (· simp only [pn_]; rfl); refine pure_ (i := 2) (N := some 10) (v := ?_) (a' := ?_) (tf 18 7) rfl rfl (by kernel_rfl) (fun _ _ _ h => h) (Or.inl ⟨by rfl, ?_⟩) ?_ ?_; rotate_left; (· intro w'; go_simp; (with_reducible rfl)); rotate_left; (· simp only [pn_]; rfl); refine pure_ (i := 3) (N := some 11) (v := ?_) (a' := ?_) (tf 18 15) rfl rfl (by kernel_rfl) (fun _ _ _ h => h) (Or.inl ⟨by rfl, ?_⟩) ?_ ?_; rotate_left; (· intro w'; go_simp; (with_reducible rfl)); rotate_left; (· simp only [pn_]; rfl); refine one_ (i := 4) (N := some 12) (tf 18 31) rfl rfl (by kernel_rfl) (by decide) (fun K hK => ?_); refine goes_ Tryz.func193 (by kernel_rfl) rfl #[.pointer (some ⟨ga, 0, none⟩)] (by rfl) rfl rfl (by simp only [List.map_toArray, List.map_cons, List.map_nil]; rfl) ?_; (with_reducible refine ((HS.out _ B0.out)).mono ?_); rintro e' w1 ⟨rfl, rfl⟩; refine ⟨_, rfl, ?_⟩; refine hK.out _ _ (hHeld) (fun hHeld => ?_); clear hK K; refine norm_ (a' := ?_) ?_ ?_; rotate_left; (· show Act.put _ (some 12) _ = _; simp only [pn_]; rfl); refine pure_ (i := 5) (N := some 13) (v := ?_) (a' := ?_) (tf 18 63) rfl rfl (by kernel_rfl) (fun _ _ _ h => h) (Or.inl ⟨by rfl, ?_⟩) ?_ ?_; rotate_left; (· intro w'; go_simp; (with_reducible rfl)); rotate_left; (· simp only [pn_]; rfl); refine pure_ (i := 6) (N := some 14) (v := undef) (a' := ?_) (tf 18 127) rfl rfl (by kernel_rfl) (fun _ _ _ h => h) (Or.inr ⟨by rfl, rfl⟩) ?_ ?_; rotate_left; (· simp only [pn_]; rfl); refine pure_ (i := 7) (N := some 15) (v := undef) (a' := ?_) (tf 18 255) rfl rfl (by kernel_rfl) (fun _ _ _ h => h) (Or.inr ⟨by rfl, rfl⟩) ?_ ?_; rotate_left; (· simp only [pn_]; rfl); refine pure_ (i := 8) (N := some 16) (v := undef) (a' := ?_) (tf 18 511) rfl rfl (by kernel_rfl) (fun _ _ _ h => h) (Or.inr ⟨by rfl, rfl⟩) ?_ ?_; rotate_left; (· simp only [pn_]; rfl); refine pure_ (i := 9) (N := some 17) (v := undef) (a' := ?_) (tf 18 1023) rfl rfl (by kernel_rfl) (fun _ _ _ h => h) (Or.inr ⟨by rfl, rfl⟩) ?_ ?_; rotate_left; (· simp only [pn_]; rfl); refine pure_ (i := 10) (N := some 18) (v := undef) (a' := ?_) (tf 18 2047) rfl rfl (by kernel_rfl) (fun _ _ _ h => h) (Or.inr ⟨by rfl, rfl⟩) ?_ ?_; rotate_left; (· simp only [pn_]; rfl); refine pure_ (i := 11) (N := some 19) (v := undef) (a' := ?_) (tf 18 4095) rfl rfl (by kernel_rfl) (fun _ _ _ h => h) (Or.inr ⟨by rfl, rfl⟩) ?_ ?_; rotate_left; (· simp only [pn_]; rfl); refine pure_ (i := 12) (N := some 20) (v := undef) (a' := ?_) (tf 18 8191) rfl rfl (by kernel_rfl) (fun _ _ _ h => h) (Or.inr ⟨by rfl, rfl⟩) ?_ ?_; rotate_left; (· simp only [pn_]; rfl); refine pure_ (i := 13) (N := some 21) (v := undef) (a' := ?_) (tf 18 16383) rfl rfl (by kernel_rfl) (fun _ _ _ h => h) (Or.inr ⟨by rfl, rfl⟩) ?_ ?_; rotate_left; (· simp only [pn_]; rfl); refine pure_ (i := 14) (N := some 22) (v := undef) (a' := ?_) (tf 18 32767) rfl rfl (by kernel_rfl) (fun _ _ _ h => h) (Or.inr ⟨by rfl, rfl⟩) ?_ ?_; rotate_left; (· simp only [pn_]; rfl); refine pure_ (i := 15) (N := some 23) (v := ?_) (a' := ?_) (tf 18 65535) rfl rfl (by kernel_rfl) (fun _ _ _ h => h) (Or.inl ⟨by rfl, ?_⟩) ?_ ?_; rotate_left; (· intro w'; go_simp; (with_reducible rfl)); rotate_left; (· simp only [pn_]; rfl); refine pure_ (i := 16) (N := some 24) (v := ?_) (a' := ?_) (tf 18 131071) rfl rfl (by kernel_rfl) (fun _ _ _ h => h) (Or.inl ⟨by rfl, ?_⟩) ?_ ?_; rotate_left; (· intro w'; go_simp; (with_reducible rfl)); rotate_left; (· simp only [pn_]; rfl); refine pure_ (i := 17) (N := some 7) (v := ?_) (a' := ?_) (tf 18 262143) rfl rfl (by kernel_rfl) (fun _ _ _ h => h) (Or.inl ⟨by rfl, ?_⟩) ?_ ?_; rotate_left; (· intro w'; go_simp; (with_reducible rfl)); rotate_left; (· simp only [pn_]; rfl); refine done_ (by kernel_rfl) ?_
  have HS2 := hid (HS.out _ B0.out)
  clear cb
  go_wp2_with fail
  refine HS2.out.mono ?_
  rintro e w1 ⟨rfl, rfl⟩
  have cb : w.drew.cell? ⟨gb, 2, none⟩ = some (.string p) := by first | exact hHeld | assumption
  clear HS2
  go_wp2
  refine start_ (n := 19) (S := fun w' => w'.cell? ⟨gb, 2, none⟩ = some (.string p)) (ds := []) (tf 19 0) (by kernel_rfl) rfl rfl (cb) (fun hHeld => ?_); refine pure_ (i := 0) (N := some 33) (v := ?_) (a' := ?_) (tf 19 1) rfl rfl (by kernel_rfl) (fun _ _ _ h => h) (Or.inl ⟨by rfl, ?_⟩) ?_ ?_; rotate_left; (· intro w'; go_simp; (with_reducible rfl)); rotate_left; (· simp only [pn_]; rfl); refine pure_ (i := 1) (N := some 34) (v := ?_) (a' := ?_) (tf 19 3) rfl rfl (by kernel_rfl) (fun _ _ _ h => h) (Or.inl ⟨by rfl, ?_⟩) ?_ ?_; rotate_left; (· intro w'; go_simp; (with_reducible rfl)); rotate_left; (· simp only [pn_]; rfl); refine pure_ (i := 2) (N := some 35) (v := ?_) (a' := ?_) (tf 19 7) rfl rfl (by kernel_rfl) (fun _ _ _ h => h) (Or.inl ⟨by rfl, ?_⟩) ?_ ?_; rotate_left; (· intro w'; go_simp; (with_reducible rfl)); rotate_left; (· simp only [pn_]; rfl); refine pure_ (i := 3) (N := some 36) (v := ?_) (a' := ?_) (tf 19 15) rfl rfl (by kernel_rfl) (fun _ _ _ h => h) (Or.inl ⟨by rfl, ?_⟩) ?_ ?_; rotate_left; (· intro w'; go_simp; (with_reducible rfl)); rotate_left; (· simp only [pn_]; rfl); refine pure_ (i := 5) (N := some 38) (v := ?_) (a' := ?_) (tf 19 47) rfl rfl (by kernel_rfl) (fun _ _ _ h => h) (Or.inl ⟨by rfl, ?_⟩) ?_ ?_; rotate_left; (· intro w'; go_simp; (with_reducible rfl)); rotate_left; (· simp only [pn_]; rfl); refine pure_ (i := 6) (N := some 39) (v := ?_) (a' := ?_) (tf 19 111) rfl rfl (by kernel_rfl) (fun _ _ _ h => h) (Or.inl ⟨by rfl, ?_⟩) ?_ ?_; rotate_left; (· intro w'; go_simp; (with_reducible rfl)); rotate_left; (· simp only [pn_]; rfl); refine pure_ (i := 7) (N := some 40) (v := ?_) (a' := ?_) (tf 19 239) rfl rfl (by kernel_rfl) (fun _ _ _ h => h) (Or.inl ⟨by rfl, ?_⟩) ?_ ?_; rotate_left; (· intro w'; go_simp; (with_reducible rfl)); rotate_left; (· simp only [pn_]; rfl); refine pure_ (i := 8) (N := some 41) (v := ?_) (a' := ?_) (tf 19 495) rfl rfl (by kernel_rfl) (fun _ _ _ h => h) (Or.inl ⟨by rfl, ?_⟩) ?_ ?_; rotate_left; (· intro w'; go_simp; (with_reducible rfl)); rotate_left; (· simp only [pn_]; rfl); refine pure_ (i := 9) (N := some 42) (v := ?_) (a' := ?_) (tf 19 1007) rfl rfl (by kernel_rfl) (fun _ _ _ h => h) (Or.inl ⟨by rfl, ?_⟩) ?_ ?_; rotate_left; (· intro w'; go_simp; (with_reducible rfl)); rotate_left; (· simp only [pn_]; rfl); refine pure_ (i := 11) (N := some 44) (v := ?_) (a' := ?_) (tf 19 3055) rfl rfl (by kernel_rfl) (fun _ _ _ h => h) (Or.inl ⟨by rfl, ?_⟩) ?_ ?_; rotate_left; (· intro w'; go_simp; (with_reducible rfl)); rotate_left; (· simp only [pn_]; rfl); refine pure_ (i := 13) (N := some 46) (v := ?_) (a' := ?_) (tf 19 11247) rfl rfl (by kernel_rfl) (fun _ _ _ h => h) (Or.inl ⟨by rfl, ?_⟩) ?_ ?_; rotate_left; (· intro w'; go_simp; (with_reducible rfl)); rotate_left; (· simp only [pn_]; rfl); refine pure_ (i := 14) (N := some 47) (v := ?_) (a' := ?_) (tf 19 27631) rfl rfl (by kernel_rfl) (fun _ _ _ h => h) (Or.inl ⟨by rfl, ?_⟩) ?_ ?_; rotate_left; (· intro w'; go_simp; (with_reducible rfl)); rotate_left; (· simp only [pn_]; rfl); refine pure_ (i := 15) (N := some 48) (v := ?_) (a' := ?_) (tf 19 60399) rfl rfl (by kernel_rfl) (fun _ _ _ h => h) (Or.inl ⟨by rfl, ?_⟩) ?_ ?_; rotate_left; (· intro w'; go_simp; (with_reducible rfl)); rotate_left; (· simp only [pn_]; rfl); refine take_ (i := 4) (N := some 37) (v := ?_) (a' := ?_) (tf 19 60415) rfl rfl (by kernel_rfl) (fun _ _ _ h => h) (Or.inl ⟨by rfl, ?_⟩) hHeld ?_ ?_; rotate_left; (· intro w' s0; go_simp; (with_reducible rfl)); rotate_left; (· simp only [pn_]; rfl); refine take_ (i := 10) (N := some 43) (v := ?_) (a' := ?_) (tf 19 61439) rfl rfl (by kernel_rfl) (fun _ _ _ h => h) (Or.inl ⟨by rfl, ?_⟩) hHeld ?_ ?_; rotate_left; (· intro w' s0; go_simp; (with_reducible rfl)); rotate_left; (· simp only [pn_]; rfl); refine one_ (i := 12) (N := some 45) (tf 19 65535) rfl rfl (by kernel_rfl) (by decide) (fun K hK => ?_); refine goes_ Tryz.func194 (by kernel_rfl) rfl #[.pointer (some ⟨ga, 0, none⟩), .string p, .int .i64 (d : Int)] (by rfl) rfl rfl (by simp only [List.map_toArray, List.map_cons, List.map_nil]; rfl) ?_; (with_reducible refine (HH2.out).mono ?_); rintro e' w2 ⟨v2, rfl, t2, rfl⟩; refine ⟨_, rfl, ?_⟩; refine hK.out _ _ (hHeld) (fun hHeld => ?_); clear hK K; refine norm_ (a' := ?_) ?_ ?_; rotate_left; (· show Act.put _ (some 45) _ = _; simp only [pn_]; rfl); refine one_ (i := 16) (N := some 49) (tf 19 131071) rfl rfl (by kernel_rfl) (by decide) (fun K hK => ?_); have RC2 := hid (RC.out _ _ T2.out t2 V2.out); refine goes_ Tryz.func171 (by kernel_rfl) rfl #[v2, .pointer (some ⟨gb, 0, none⟩), .int .i64 ((d : Int) + 1)] (by rfl) rfl rfl (by simp only [List.map_toArray, List.map_cons, List.map_nil]; rfl) ?_; (with_reducible refine (RC2.out).mono ?_); rintro e' w3 ⟨v3, rfl, t3, b3⟩; refine ⟨_, rfl, ?_⟩; have B3 := below_then B00.out b3; refine hK.out _ _ ((below_cell b3 hHeld)) (fun hHeld => ?_); clear hK K; refine norm_ (a' := ?_) ?_ ?_; rotate_left; (· show Act.put _ (some 49) _ = _; simp only [pn_]; rfl); refine one_ (i := 17) (N := some 50) (tf 19 262143) rfl rfl (by kernel_rfl) (by decide) (fun K hK => ?_); have HW2 := hid (HW.out _ _ B3 (TT.out.below B3) t3); refine goes_ Tryz.func207 (by kernel_rfl) rfl #[.pointer (some ⟨ga, 0, none⟩), .string p, .int .i64 (d : Int), v3] (by rfl) rfl rfl (by simp only [List.map_toArray, List.map_cons, List.map_nil]; rfl) ?_; (with_reducible refine (HW2.out).mono ?_); rintro e' w4 ⟨v4, rfl, t4, b4⟩; refine ⟨_, rfl, ?_⟩; have B4 := below_then B3 b4; refine hK.out _ _ ((below_cell b4 hHeld)) (fun hHeld => ?_); clear hK K; refine norm_ (a' := ?_) ?_ ?_; rotate_left; (· show Act.put _ (some 50) _ = _; simp only [pn_]; rfl); refine pure_ (i := 18) (N := some 6) (v := ?_) (a' := ?_) (tf 19 524287) rfl rfl (by kernel_rfl) (fun _ _ _ h => h) (Or.inl ⟨by rfl, ?_⟩) ?_ ?_; rotate_left; (· intro w'; go_simp; (with_reducible rfl)); rotate_left; (· simp only [pn_]; rfl); refine done_ (by kernel_rfl) ?_
  have FIN := hid (And.intro t4 B4)
  clear t2 t3 b3 b4 t4 B3 B4
  go_wp2
  go_ret
  exact ⟨v4, rfl, FIN.out.1, FIN.out.2⟩
end Go.Proofs.YtnidgljkbmceaaaGreatDoor
