/- Words in memory; the walk of word (the round's word, in a ring of sixteen). -/
import Derived.Test.YtnidgljkbmceaaaGreatDoorPn
import Derived.Test.YtnidgljkbmceaaaGreatDoorG00
import Derived.BigQuiet
set_option linter.unusedVariables false
set_option linter.unusedSimpArgs false
namespace Go.Proofs.YtnidgljkbmceaaaGreatDoor
open Go.RowKit PrintLast
theorem word_addW (x y : UInt32) : IntKind.u32.wrap ((x.toNat : Int) + (y.toNat : Int)) = ((wAdd x y).toNat : Int) := by rw [IntKind.wrap_u32', word_add]
def u32s (l : List UInt32) : Array Value := (l.map fun x => Value.int .u32 (x.toNat : Int)).toArray
theorem u32s_size (l : List UInt32) : (u32s l).size = l.length := by simp [u32s]
theorem u32s_get (l : List UInt32) (i : Nat) (h : i < l.length) : (u32s l)[i]? = some (.int .u32 ((l.getD i 0).toNat : Int)) := by
  simp [u32s, h]
theorem u32s_set (l : List UInt32) (i : Nat) (x : UInt32) : (u32s l).setIfInBounds i (.int .u32 (x.toNat : Int)) = u32s (l.set i x) := by
  unfold u32s
  rw [List.map_set]
  simp
def WordsAt (w : World) (g : Nat) (l : List UInt32) (t : TypeId) : Prop := w.heap[g]? = some (.cells (u32s l) t (0, 0))
theorem WordsAt.cell {w : World} {g : Nat} {l : List UInt32} {t : TypeId} (h : WordsAt w g l t) (i : Nat) (hi : i < l.length) : w.cell? ⟨g, i, none⟩ = some (.int .u32 ((l.getD i 0).toNat : Int)) := cell_at h (u32s_get l i hi)
theorem WordsAt.free {w : World} {g : Nat} {l : List UInt32} {t : TypeId} (h : WordsAt w g l t) (i : Nat) : w.frozen? ⟨g, i, none⟩ = false := free_at h i
theorem WordsAt.set {w : World} {g : Nat} {l : List UInt32} {t : TypeId} (h : WordsAt w g l t) (i : Nat) (x : UInt32) : WordsAt (w.setCell ⟨g, i, none⟩ (.int .u32 (x.toNat : Int))) g (l.set i x) t := by
  unfold WordsAt
  rw [heap_set h, u32s_set]
theorem WordsAt.keeps {S : Nat → Prop} {w w' : World} {g : Nat} {l : List UInt32} {t : TypeId} (h : WordsAt w g l t) (hk : Keeps S w w') (hn : ¬ S g) : WordsAt w' g l t := hk.heap h hn
theorem WordsAt.below {w w' : World} {g : Nat} {l : List UInt32} {t : TypeId} (h : WordsAt w g l t) (hb : Below w.heap.size w w') : WordsAt w' g l t := below_heap hb h
theorem Keeps.set1 (w : World) (g k : Nat) (u : Value) : Keeps (fun j => j = g) w (w.setCell ⟨g, k, none⟩ u) := (Keeps.refl (fun j => j = g) w).setCell (p := ⟨g, k, none⟩) (fun _ => rfl) u
theorem WordsAt.row {w : World} {g : Nat} {l m : List UInt32} {t : TypeId} (h : WordsAt w g l t) : WordsAt (w.setRow g (u32s m)) g m t := setRow_heap w g _ _ t _ h
theorem Keeps.row1 (w : World) (g : Nat) (cs : Array Value) : Keeps (fun j => j = g) w (w.setRow g cs) :=
  ⟨rfl, rfl, rfl, by rw [setRow_size]; exact Nat.le_refl _, fun k _ hn => setRow_other w g k cs hn⟩
theorem u32s_one (l : List UInt32) : ((u32s l).all fun x => x.oneCell') = true := by
  simp only [u32s, List.all_toArray, List.all_eq_true]
  intro x hx
  obtain ⟨_, _, rfl⟩ := List.mem_map.1 hx
  rfl
theorem run_index_words {w : World} {P : Program} {t e : TypeId} {n : Nat} {j : TypeInfo} (h : P.underlying t = some (.array n e)) (hagg : (isAgg e).run P w = .ok false w) (hj : P.info? e = some j) (hs : j.size = 1) (l : List UInt32) (hl : l.length = n) (k : Nat) (hk : k < n) :
    (Instr.index t (.agg (u32s l)) (.int .i64 (k : Int))).run P w = .ok (.int .u32 ((l.getD k 0).toNat : Int)) w := by
  have hg := u32s_get l k (by omega)
  simp [Instr.index, run_underlying h, asIntOf, part, sizeOf, typeInfo, hj, hs, hagg, hk, hg, Result.andThen]
def RingAt (F : Nat → UInt32) (i : Nat) (r : List UInt32) : Prop := r.length = 16 ∧ ∀ t, t < max i 16 → max i 16 ≤ t + 16 → r.getD (t % 16) 0 = F t
def ringNext (F : Nat → UInt32) (i : Nat) (r : List UInt32) : List UInt32 := if 16 ≤ i then r.set (i % 16) (F i) else r
theorem RingAt.next {F : Nat → UInt32} {i : Nat} {r : List UInt32} (h : RingAt F i r) : RingAt F (i + 1) (ringNext F i r) := by
  obtain ⟨h1, h2⟩ := h
  unfold ringNext
  by_cases h16 : 16 ≤ i
  · rw [if_pos h16]
    refine ⟨by simpa using h1, fun t ht1 ht2 => ?_⟩
    by_cases e : t = i
    · subst e
      simp [List.getD_eq_getElem?_getD, show t % 16 < r.length by omega]
    · have : ¬ (i % 16 = t % 16) := by omega
      rw [← h2 t (by omega) (by omega)]
      simp [List.getD_eq_getElem?_getD, List.getElem?_set, this]
  · rw [if_neg h16]
    refine ⟨h1, fun t ht1 ht2 => h2 t (by omega) (by omega)⟩
theorem RingAt.start (F : Nat → UInt32) (r : List UInt32) (h : r.length = 16) (hF : ∀ t, t < 16 → F t = r.getD t 0) : RingAt F 0 r :=
  ⟨h, fun t ht1 ht2 => by rw [hF t (by omega)]; congr 1; omega⟩
set_option maxRecDepth 100000 in
set_option maxHeartbeats 800000 in
theorem word_any {w : World} {g : Nat} {t : TypeId} {r : List UInt32} {F : Nat → UInt32} {i : Nat} (hi : i < 64) (hr : WordsAt w g r t) (hF : RingAt F i r)
    (hnext : ∀ i, 16 ≤ i → i < 64 → F i = wAdd (wAdd (wAdd (F (i - 16)) (F (i - 7))) (sig0 (F (i - 15)))) (sig1 (F (i - 2)))) :
    Calls Tryz.prog 162 #[.pointer (some ⟨g, 0, none⟩), .int .i64 (i : Int)] w fun e w' => e = .returned (.int .u32 ((F i).toNat : Int)) ∧ WordsAt w' g (ringNext F i r) t ∧ Keeps (fun j => j = g) w w' := by
  obtain ⟨hl, hw⟩ := hF
  have hcell := fun j (hj : j < 16) => hr.cell j (by omega)
  by_cases h16 : i < 16
  · have t16 : decide ((16 : Int) ≤ (i : Int)) = false := by simp; omega
    have m16 : ((i : Int).tmod 16) = (i : Int) := by rw [Int.tmod_eq_emod_of_nonneg (by omega)]; omega
    have c1 := hcell i h16
    have e1 : r.getD i 0 = F i := by have := hw i (by omega) (by omega); rwa [show i % 16 = i by omega] at this
    rw [e1] at c1
    have er : ringNext F i r = r := by unfold ringNext; rw [if_neg (by omega)]
    rw [er]
    clear hcell hw e1 er hnext
    go_enter Tryz.func162, Tryz.ntmps162
    go_wp2
    go_ret
    exact ⟨rfl, hr, Keeps.refl _ _⟩
  · have t16 : decide ((16 : Int) ≤ (i : Int)) = true := by simp; omega
    obtain ⟨j0, hj0⟩ : ∃ j, j = i % 16 := ⟨_, rfl⟩
    obtain ⟨j1, hj1⟩ : ∃ j, j = (i + 1) % 16 := ⟨_, rfl⟩
    obtain ⟨j9, hj9⟩ : ∃ j, j = (i + 9) % 16 := ⟨_, rfl⟩
    obtain ⟨j14, hj14⟩ : ∃ j, j = (i + 14) % 16 := ⟨_, rfl⟩
    have l0 : j0 < 16 := by omega
    have l1 : j1 < 16 := by omega
    have l9 : j9 < 16 := by omega
    have l14 : j14 < 16 := by omega
    have m0 : ((i : Int).tmod 16) = (j0 : Int) := by rw [Int.tmod_eq_emod_of_nonneg (by omega)]; omega
    have m1 : (((i : Int) + 1).tmod 16) = (j1 : Int) := by rw [Int.tmod_eq_emod_of_nonneg (by omega)]; omega
    have m9 : (((i : Int) + 9).tmod 16) = (j9 : Int) := by rw [Int.tmod_eq_emod_of_nonneg (by omega)]; omega
    have m14 : (((i : Int) + 14).tmod 16) = (j14 : Int) := by rw [Int.tmod_eq_emod_of_nonneg (by omega)]; omega
    have c0 := hcell j0 l0
    have c1 := hcell j1 l1
    have c9 := hcell j9 l9
    have c14 := hcell j14 l14
    rw [show r.getD j0 0 = F (i - 16) by rw [hj0, ← hw (i - 16) (by omega) (by omega)]; congr 1; omega] at c0
    rw [show r.getD j1 0 = F (i - 15) by rw [hj1, ← hw (i - 15) (by omega) (by omega)]; congr 1; omega] at c1
    rw [show r.getD j9 0 = F (i - 7) by rw [hj9, ← hw (i - 7) (by omega) (by omega)]; congr 1; omega] at c9
    rw [show r.getD j14 0 = F (i - 2) by rw [hj14, ← hw (i - 2) (by omega) (by omega)]; congr 1; omega] at c14
    have f0 := hr.free j0
    have hnx := hid (hnext i (by omega) hi)
    have er : ringNext F i r = r.set j0 (F i) := by unfold ringNext; rw [if_pos (by omega), ← hj0]
    rw [er]
    obtain ⟨x16, h16'⟩ : ∃ x, x = F (i - 16) := ⟨_, rfl⟩
    obtain ⟨x15, h15'⟩ : ∃ x, x = F (i - 15) := ⟨_, rfl⟩
    obtain ⟨x7, h7'⟩ : ∃ x, x = F (i - 7) := ⟨_, rfl⟩
    obtain ⟨x2, h2'⟩ : ∃ x, x = F (i - 2) := ⟨_, rfl⟩
    rw [← h16', ← h7', ← h15', ← h2'] at hnx
    rw [← h16'] at c0
    rw [← h15'] at c1
    rw [← h7'] at c9
    rw [← h2'] at c14
    have hi1 : i < 64 := hi
    clear hcell hw hnext er hj0 hj1 hj9 hj14 h16' h15' h7' h2' h16
    have s3 := word_shr x15 3 (by omega)
    have s10 := word_shr x2 10 (by omega)
    have s3' : (x15.toNat : Int) / 8 = ((wShr x15 3).toNat : Int) := s3
    have s10' : (x2.toNat : Int) / 1024 = ((wShr x2 10).toNat : Int) := s10
    clear s3 s10
    have S1 : ∀ w : World, Calls Tryz.prog 160 #[.int .u32 (x15.toNat : Int), .int .i64 7, .int .i64 18, .int .u32 ((wShr x15 3).toNat : Int)] w fun e w' => e = .returned (.int .u32 ((sig0 x15).toNat : Int)) ∧ w = w' := fun w => spread_any (a := 7) (b := 18) ⟨by omega, by omega⟩ ⟨by omega, by omega⟩
    have S2 : ∀ w : World, Calls Tryz.prog 160 #[.int .u32 (x2.toNat : Int), .int .i64 17, .int .i64 19, .int .u32 ((wShr x2 10).toNat : Int)] w fun e w' => e = .returned (.int .u32 ((sig1 x2).toNat : Int)) ∧ w = w' := fun w => spread_any (a := 17) (b := 19) ⟨by omega, by omega⟩ ⟨by omega, by omega⟩
    have A1 := word_addW (sig0 x15) x7
    have A2 := word_addW (wAdd (sig0 x15) x7) (sig1 x2)
    have A3 := word_addW x16 (wAdd (wAdd (sig0 x15) x7) (sig1 x2))
    have hsum : wAdd x16 (wAdd (wAdd (sig0 x15) x7) (sig1 x2)) = F i := by rw [hnx.out, wAdd_comm (sig0 x15) x7, wAdd_assoc, wAdd_assoc, wAdd_assoc]
    rw [hsum] at A3
    clear hnx hsum
    go_enter Tryz.func162, Tryz.ntmps162
    go_wp2
    go_region
    have w9 : wrap64 ((i : Int) + 9) = (i : Int) + 9 := by unfold wrap64; omega
    have q0 : ((j0 : Int) < 16) = True := by simp; omega
    have q9 : ((j9 : Int) < 16) = True := by simp; omega
    go_wp2
    refine start_ (n := 27) (S := fun w' => w'.cell? ⟨g, j0, none⟩ = some (.int .u32 (x16.toNat : Int)) ∧ w'.cell? ⟨g, j9, none⟩ = some (.int .u32 (x7.toNat : Int)) ∧ w'.frozen? ⟨g, j0, none⟩ = false) (ds := [26]) (tf 27 0) (by kernel_rfl) rfl rfl ⟨c0, c9, f0⟩ (fun hHeld => ?_); refine pure_ (i := 0) (N := some 23) (v := ?_) (a' := ?_) (tf 27 1) rfl rfl (by kernel_rfl) (fun _ _ _ h => h) (Or.inl ⟨by rfl, ?_⟩) ?_ ?_; rotate_left; (· intro w'; go_simp; (with_reducible rfl)); rotate_left; (· simp only [pn_]; rfl); refine pure_ (i := 1) (N := some 24) (v := ?_) (a' := ?_) (tf 27 3) rfl rfl (by kernel_rfl) (fun _ _ _ h => h) (Or.inl ⟨by rfl, ?_⟩) ?_ ?_; rotate_left; (· intro w'; go_simp; (with_reducible rfl)); rotate_left; (· simp only [pn_]; rfl); refine pure_ (i := 2) (N := some 25) (v := ?_) (a' := ?_) (tf 27 7) rfl rfl (by kernel_rfl) (fun _ _ _ h => h) (Or.inl ⟨by rfl, ?_⟩) ?_ ?_; rotate_left; (· intro w'; go_simp; (with_reducible rfl)); rotate_left; (· simp only [pn_]; rfl); refine pure_ (i := 3) (N := some 26) (v := ?_) (a' := ?_) (tf 27 15) rfl rfl (by kernel_rfl) (fun _ _ _ h => h) (Or.inl ⟨by rfl, ?_⟩) ?_ ?_; rotate_left; (· intro w'; go_simp; (with_reducible rfl)); rotate_left; (· simp only [pn_]; rfl); refine pure_ (i := 4) (N := some 27) (v := ?_) (a' := ?_) (tf 27 31) rfl rfl (by kernel_rfl) (fun _ _ _ h => h) (Or.inl ⟨by rfl, ?_⟩) ?_ ?_; rotate_left; (· intro w'; go_simp; (with_reducible rfl)); rotate_left; (· simp only [pn_]; rfl); refine pure_ (i := 6) (N := some 29) (v := ?_) (a' := ?_) (tf 27 95) rfl rfl (by kernel_rfl) (fun _ _ _ h => h) (Or.inl ⟨by rfl, ?_⟩) ?_ ?_; rotate_left; (· intro w'; go_simp; (with_reducible rfl)); rotate_left; (· simp only [pn_]; rfl); refine pure_ (i := 7) (N := some 30) (v := ?_) (a' := ?_) (tf 27 223) rfl rfl (by kernel_rfl) (fun _ _ _ h => h) (Or.inl ⟨by rfl, ?_⟩) ?_ ?_; rotate_left; (· intro w'; go_simp; (with_reducible rfl)); rotate_left; (· simp only [pn_]; rfl); refine pure_ (i := 8) (N := some 31) (v := ?_) (a' := ?_) (tf 27 479) rfl rfl (by kernel_rfl) (fun _ _ _ h => h) (Or.inl ⟨by rfl, ?_⟩) ?_ ?_; rotate_left; (· intro w'; go_simp; (with_reducible rfl)); rotate_left; (· simp only [pn_]; rfl); refine pure_ (i := 10) (N := some 33) (v := ?_) (a' := ?_) (tf 27 1503) rfl rfl (by kernel_rfl) (fun _ _ _ h => h) (Or.inl ⟨by rfl, ?_⟩) ?_ ?_; rotate_left; (· intro w'; go_simp; (with_reducible rfl)); rotate_left; (· simp only [pn_]; rfl); refine pure_ (i := 11) (N := some 34) (v := ?_) (a' := ?_) (tf 27 3551) rfl rfl (by kernel_rfl) (fun _ _ _ h => h) (Or.inl ⟨by rfl, ?_⟩) ?_ ?_; rotate_left; (· intro w'; go_simp; (with_reducible rfl)); rotate_left; (· simp only [pn_]; rfl); refine pure_ (i := 12) (N := some 35) (v := ?_) (a' := ?_) (tf 27 7647) rfl rfl (by kernel_rfl) (fun _ _ _ h => h) (Or.inl ⟨by rfl, ?_⟩) ?_ ?_; rotate_left; (· intro w'; go_simp; (with_reducible rfl)); rotate_left; (· simp only [pn_]; rfl); refine pure_ (i := 13) (N := some 36) (v := ?_) (a' := ?_) (tf 27 15839) rfl rfl (by kernel_rfl) (fun _ _ _ h => h) (Or.inl ⟨by rfl, ?_⟩) ?_ ?_; rotate_left; (· intro w'; go_simp; (with_reducible rfl)); rotate_left; (· simp only [pn_]; rfl); refine pure_ (i := 14) (N := some 37) (v := ?_) (a' := ?_) (tf 27 32223) rfl rfl (by kernel_rfl) (fun _ _ _ h => h) (Or.inl ⟨by rfl, ?_⟩) ?_ ?_; rotate_left; (· intro w'; go_simp; (with_reducible rfl)); rotate_left; (· simp only [pn_]; rfl); refine pure_ (i := 15) (N := some 38) (v := ?_) (a' := ?_) (tf 27 64991) rfl rfl (by kernel_rfl) (fun _ _ _ h => h) (Or.inl ⟨by rfl, ?_⟩) ?_ ?_; rotate_left; (· intro w'; go_simp; (with_reducible rfl)); rotate_left; (· simp only [pn_]; rfl); refine pure_ (i := 18) (N := some 41) (v := ?_) (a' := ?_) (tf 27 327135) rfl rfl (by kernel_rfl) (fun _ _ _ h => h) (Or.inl ⟨by rfl, ?_⟩) ?_ ?_; rotate_left; (· intro w'; go_simp; (with_reducible rfl)); rotate_left; (· simp only [pn_]; rfl); refine pure_ (i := 19) (N := some 42) (v := ?_) (a' := ?_) (tf 27 851423) rfl rfl (by kernel_rfl) (fun _ _ _ h => h) (Or.inl ⟨by rfl, ?_⟩) ?_ ?_; rotate_left; (· intro w'; go_simp; (with_reducible rfl)); rotate_left; (· simp only [pn_]; rfl); refine pure_ (i := 20) (N := some 43) (v := ?_) (a' := ?_) (tf 27 1899999) rfl rfl (by kernel_rfl) (fun _ _ _ h => h) (Or.inl ⟨by rfl, ?_⟩) ?_ ?_; rotate_left; (· intro w'; go_simp; (with_reducible rfl)); rotate_left; (· simp only [pn_]; rfl); refine pure_ (i := 24) (N := some 47) (v := ?_) (a' := ?_) (tf 27 18677215) rfl rfl (by kernel_rfl) (fun _ _ _ h => h) (Or.inl ⟨by rfl, ?_⟩) ?_ ?_; rotate_left; (· intro w'; go_simp; (with_reducible rfl)); rotate_left; (· simp only [pn_]; rfl); refine take_ (i := 5) (N := some 28) (v := ?_) (a' := ?_) (tf 27 18677247) rfl rfl (by kernel_rfl) (fun _ _ _ h => h) (Or.inl ⟨by rfl, ?_⟩) hHeld ?_ ?_; rotate_left; (· rintro w' ⟨s0, s1, s2⟩; go_simp; (with_reducible rfl)); rotate_left; (· simp only [pn_]; rfl); refine take_ (i := 16) (N := some 39) (v := ?_) (a' := ?_) (tf 27 18742783) rfl rfl (by kernel_rfl) (fun _ _ _ h => h) (Or.inl ⟨by rfl, ?_⟩) hHeld ?_ ?_; rotate_left; (· rintro w' ⟨s0, s1, s2⟩; go_simp; (with_reducible rfl)); rotate_left; (· simp only [pn_]; rfl); refine one_ (i := 9) (N := some 32) (tf 27 18743295) rfl rfl (by kernel_rfl) (by decide) (fun K hK => ?_); refine goes_ Tryz.func160 (by kernel_rfl) rfl #[.int .u32 (x15.toNat : Int), .int .i64 7, .int .i64 18, .int .u32 ((wShr x15 3).toNat : Int)] (by rfl) rfl rfl (by simp only [List.map_toArray, List.map_cons, List.map_nil]; rfl) ?_; (with_reducible refine ((S1 _)).mono ?_); rintro e w5 ⟨rfl, rfl⟩; refine ⟨_, rfl, ?_⟩; refine hK.out _ _ ⟨c0, c9, f0⟩ (fun hHeld => ?_); clear hK K; refine norm_ (a' := ?_) ?_ ?_; rotate_left; (· show Act.put _ (some 32) _ = _; simp only [pn_]; rfl); refine pure_ (i := 17) (N := some 40) (v := ?_) (a' := ?_) (tf 27 18874367) rfl rfl (by kernel_rfl) (fun _ _ _ h => h) (Or.inl ⟨by rfl, ?_⟩) ?_ ?_; rotate_left; (· intro w'; go_simp; (with_reducible rfl)); rotate_left; (· simp only [pn_]; rfl); refine one_ (i := 21) (N := some 44) (tf 27 20971519) rfl rfl (by kernel_rfl) (by decide) (fun K hK => ?_); refine goes_ Tryz.func160 (by kernel_rfl) rfl #[.int .u32 (x2.toNat : Int), .int .i64 17, .int .i64 19, .int .u32 ((wShr x2 10).toNat : Int)] (by rfl) rfl rfl (by simp only [List.map_toArray, List.map_cons, List.map_nil]; rfl) ?_; (with_reducible refine ((S2 _)).mono ?_); rintro e w5 ⟨rfl, rfl⟩; refine ⟨_, rfl, ?_⟩; refine hK.out _ _ ⟨c0, c9, f0⟩ (fun hHeld => ?_); clear hK K; refine norm_ (a' := ?_) ?_ ?_; rotate_left; (· show Act.put _ (some 44) _ = _; simp only [pn_]; rfl); refine pure_ (i := 22) (N := some 45) (v := ?_) (a' := ?_) (tf 27 25165823) rfl rfl (by kernel_rfl) (fun _ _ _ h => h) (Or.inl ⟨by rfl, ?_⟩) ?_ ?_; rotate_left; (· intro w'; go_simp; (with_reducible rfl)); rotate_left; (· simp only [pn_]; rfl); refine pure_ (i := 23) (N := some 46) (v := ?_) (a' := ?_) (tf 27 33554431) rfl rfl (by kernel_rfl) (fun _ _ _ h => h) (Or.inl ⟨by rfl, ?_⟩) ?_ ?_; rotate_left; (· intro w'; go_simp; (with_reducible rfl)); rotate_left; (· simp only [pn_]; rfl); refine pure_ (i := 25) (N := some 48) (v := ?_) (a' := ?_) (tf 27 67108863) rfl rfl (by kernel_rfl) (fun _ _ _ h => h) (Or.inl ⟨by rfl, ?_⟩) ?_ ?_; rotate_left; (· intro w'; go_simp; (with_reducible rfl)); rotate_left; (· simp only [pn_]; rfl); refine last_ (i := 26) (N := none) (tf 27 134217727) rfl rfl (by kernel_rfl) (by decide) (fun K hK => ?_); refine skip_ (w1 := ?_) (by rfl) rfl ?_ ?_; rotate_left; (· go_simp; rfl); refine hK.out _ _ ?_; clear hK K; refine done_ (by kernel_rfl) ?_
    have HS := hr.set j0 (F i)
    have z0 := HS.cell j0 (by simp; omega)
    have ez : (r.set j0 (F i)).getD j0 0 = F i := by simp [List.getD_eq_getElem?_getD, show j0 < r.length by omega]
    rw [ez] at z0
    have HK := Keeps.set1 w g j0 (.int .u32 ((F i).toNat : Int))
    generalize w.setCell ⟨g, j0, none⟩ (.int .u32 ((F i).toNat : Int)) = W at *
    clear c0 c1 c9 c14 f0 A1 A2 A3 S1 S2 ez
    go_wp2
    go_ret
    exact ⟨rfl, HS, HK.drew.drew⟩
end Go.Proofs.YtnidgljkbmceaaaGreatDoor
