/- TopSkew's walks: a transaction. -/
import Derived.Test.YtnidgljkbmceaaaGreatDoorPn
import Derived.Test.YtnidgljkbmceaaaGreatDoorG08
import Derived.Test.YtnidgljkbmceaaaGreatDoorG07
set_option linter.unusedVariables false
set_option linter.unusedSimpArgs false
namespace Go.Proofs.YtnidgljkbmceaaaGreatDoor
open Go.RowKit PrintLast Go.Maps Go.MapKept
theorem zeroChain (w : World) : (zeroValue 227).run Tryz.prog w = .ok (.pointer none) w := by kernel_rfl
theorem zeroWrite (w : World) : (zeroValue 209).run Tryz.prog w = .ok (.agg #[.string ⟨#[]⟩, .slice none 0 0, .bool false]) w := by kernel_rfl
def stoC (SM : Nat) (now : Int) : Array Value := #[.map (some SM), .int .i64 now]
theorem sof_miss {w : World} {S SM n : Nat} {now : Int} {es : Array MapEntry} {k : ByteArray} (hS : w.heap[S]? = some (.cells (stoC SM now) 137 (0, 0))) (hM : w.heap[SM]? = some (.map es n)) (hf : Instr.findNow .string (.string k) es.toList 0 = some none) :
    Calls Tryz.prog 216 #[.pointer (some ⟨S, 0, none⟩), .string k] w fun e w' => e = .returned (.pointer none) ∧ w = w' := by
  have lk := (look_miss (k := .string k) Tryz.underlying135 Tryz.underlying9 trivial hM (zeroChain w) hf).1
  have c0 := cell_at hS (i := 0) (v := .map (some SM)) rfl
  clear hS hM hf
  go_enter Tryz.func216, Tryz.ntmps216
  go_wp2
  go_ret
  exact ⟨rfl, rfl⟩
theorem slast_miss {w : World} {S SM n : Nat} {now : Int} {es : Array MapEntry} {k : ByteArray} (hS : w.heap[S]? = some (.cells (stoC SM now) 137 (0, 0))) (hM : w.heap[SM]? = some (.map es n)) (hf : Instr.findNow .string (.string k) es.toList 0 = some none) :
    Calls Tryz.prog 229 #[.pointer (some ⟨S, 0, none⟩), .string k] w fun e w' => e = .returned (.int .i64 0) ∧ w = w' := by
  have H := hid (sof_miss hS hM hf)
  clear hS hM hf
  go_enter Tryz.func229, Tryz.ntmps229
  go_wp2_with fail
  refine H.out.mono ?_
  rintro e w1 ⟨rfl, rfl⟩
  go_wp2_with fail
  refine clast_nil.mono ?_
  rintro e w1 ⟨rfl, rfl⟩
  clear H
  go_wp2
  go_ret
  exact ⟨rfl, rfl⟩
theorem cget_nil {w : World} (x : Int) : Calls Tryz.prog 217 #[.pointer none, .int .i64 x] w fun e w' => e = .returned (.tuple #[.slice none 0 0, .bool false]) ∧ Below w.heap.size w w' := by
  go_enter Tryz.func217, Tryz.ntmps217
  go_wp2_with fail
  refine (cseen_nil x).mono ?_
  rintro e w1 ⟨rfl, hb⟩
  go_wp2
  go_ret2
  exact ⟨rfl, hb⟩
theorem sget_miss {w : World} {S SM n : Nat} {now x : Int} {es : Array MapEntry} {k : ByteArray} (hS : w.heap[S]? = some (.cells (stoC SM now) 137 (0, 0))) (hM : w.heap[SM]? = some (.map es n)) (hf : Instr.findNow .string (.string k) es.toList 0 = some none) :
    Calls Tryz.prog 177 #[.pointer (some ⟨S, 0, none⟩), .int .i64 x, .string k] w fun e w' => e = .returned (.tuple #[.slice none 0 0, .bool false]) ∧ Below w.heap.size w w' := by
  have H := hid (sof_miss hS hM hf)
  clear hS hM hf
  go_enter Tryz.func177, Tryz.ntmps177
  go_wp2_with fail
  refine H.out.mono ?_
  rintro e w1 ⟨rfl, rfl⟩
  go_wp2_with fail
  refine (cget_nil x).mono ?_
  rintro e w2 ⟨rfl, hb⟩
  clear H
  go_wp2
  go_ret2
  exact ⟨rfl, hb⟩
def txC (M : Nat) : Array Value := #[.int .i64 0, .map (some M)]
theorem txnew_any {w : World} : Calls Tryz.prog 129 #[.int .i64 0] w fun e w' => ∃ T M, e = .returned (.pointer (some ⟨T, 0, none⟩)) ∧ w'.heap[T]? = some (.cells (txC M) 306 (0, 0)) ∧ w'.heap[M]? = some (.map #[] 0) ∧ w.heap.size ≤ T ∧ w.heap.size ≤ M ∧ Below w.heap.size w w' := by
  have hmm := @run_makeMap Tryz.prog
  go_enter Tryz.func129, Tryz.ntmps129
  go_wp2
  go_ret
  have h1 := heap_alloc_new (w.alloc (.map #[] 0)) (.cells #[.int .i64 0, .map (some w.heap.size)] 306)
  rw [show (w.alloc (.map #[] 0)).heap.size = w.heap.size + 1 by simp] at h1
  exact ⟨w.heap.size + 1, w.heap.size, rfl, h1, below_heap (below_alloc (Below.refl _ _) _) (heap_alloc_new _ _), by omega, Nat.le_refl _, by go_grown⟩
set_option maxHeartbeats 800000 in
theorem own_miss {w : World} {T M : Nat} {k : ByteArray} (hT : w.heap[T]? = some (.cells (txC M) 306 (0, 0))) (hM : w.heap[M]? = some (.map #[] 0)) :
    Calls Tryz.prog 176 #[.pointer (some ⟨T, 0, none⟩), .string k] w fun e w' => e = .returned (.tuple #[.agg #[.string ⟨#[]⟩, .slice none 0 0, .bool false], .bool false]) ∧ Below w.heap.size w w' := by
  obtain ⟨wA, hA⟩ : ∃ wA, wA = w.alloc (.cells #[.string ⟨#[]⟩, .slice none 0 0, .bool false] 209) := ⟨_, rfl⟩
  have bA : Below w.heap.size w wA := by rw [hA]; exact below_alloc (Below.refl _ _) _
  have lk := (look_miss (k := .string k) Tryz.underlying304 Tryz.underlying9 trivial (below_heap bA hM) (zeroWrite wA) (find_none _ _)).2
  rw [hA] at lk
  have c1 := below_cell (below_alloc (Below.refl _ w) (.cells #[.string ⟨#[]⟩, .slice none 0 0, .bool false] 209)) (cell_at hT (i := 1) (v := .map (some M)) rfl)
  clear hT hM bA hA
  go_enter Tryz.func176, Tryz.ntmps176
  go_wp2
  go_returns
  exact ⟨rfl, by go_grown⟩
set_option maxHeartbeats 800000 in
theorem txget_miss {w : World} {T M S SM n : Nat} {now : Int} {es : Array MapEntry} {k : ByteArray} (hT : w.heap[T]? = some (.cells (txC M) 306 (0, 0))) (hM : w.heap[M]? = some (.map #[] 0)) (hS : w.heap[S]? = some (.cells (stoC SM now) 137 (0, 0))) (hSM : w.heap[SM]? = some (.map es n)) (hf : Instr.findNow .string (.string k) es.toList 0 = some none) :
    Calls Tryz.prog 131 #[.pointer (some ⟨T, 0, none⟩), .pointer (some ⟨S, 0, none⟩), .string k] w fun e w' => e = .returned (.tuple #[.slice none 0 0, .bool false]) ∧ Below w.heap.size w w' := by
  have H := hid (own_miss (k := k) hT hM)
  have HT := hid hT
  have HS := hid (And.intro hS hSM)
  clear hT hM hS hSM
  go_enter Tryz.func131, Tryz.ntmps131
  go_wp2_with fail
  refine H.out.mono ?_
  rintro e w1 ⟨rfl, b1⟩
  have al := below_then b1 (below_alloc (Below.refl _ w1) (.cells #[.string ⟨#[]⟩, .slice none 0 0, .bool false] 209))
  have c0 := cell_at (below_heap al HT.out) (i := 0) (v := .int .i64 0) rfl
  have G := hid (sget_miss (x := 0) (below_heap al HS.out.1) (below_heap al HS.out.2) hf)
  have AL := hid al
  clear H b1 al hf
  go_wp2_with fail
  refine G.out.mono ?_
  rintro e w2 ⟨rfl, b2⟩
  have B2 := hid (below_then AL.out b2)
  clear G AL b2
  go_wp2
  go_ret2
  exact ⟨rfl, B2.out⟩
theorem lenMap (w : World) (M : Nat) (n : Nat) (ty : TypeId) (h : w.heap[M]? = some (.map #[] n)) : (Builtin.len_ #[304] ty #[.map (some M)]).run Tryz.prog w = .ok (.int .i64 0) w := by
  simp [Builtin.len_, run_underlying Tryz.underlying304, MapKept.run_getObj_map h, Result.andThen]
  rfl
set_option maxRecDepth 100000 in
set_option maxHeartbeats 1600000 in
theorem txwrite_any {w : World} {T M : Nat} {k : ByteArray} {A : Option Addr} {n c : Nat} (hT : w.heap[T]? = some (.cells (txC M) 306 (0, 0))) (hM : w.heap[M]? = some (.map #[] 0)) :
    Calls Tryz.prog 187 #[.pointer (some ⟨T, 0, none⟩), .agg #[.string k, .slice A n c, .bool false]] w fun e w' => e = .returned (.int .i64 0) ∧ w'.heap[M]? = some (.map #[entS k (.agg #[.string k, .slice A n c, .bool false]) 0] 1) ∧ Keeps (fun k => k = M) w w' := by
  obtain ⟨S, hS⟩ : ∃ S, S = w.heap.size := ⟨_, rfl⟩
  obtain ⟨w1, hw1⟩ : ∃ w1, w1 = w.alloc (.cells #[.string k, .slice A n c, .bool false] 209) := ⟨_, rfl⟩
  have b1 : Below w.heap.size w w1 := by rw [hw1]; exact below_alloc (Below.refl _ _) _
  have g1 : w1.heap[S]? = some (.cells #[.string k, .slice A n c, .bool false] 209 (0, 0)) := by rw [hw1, hS]; exact heap_alloc_new _ _
  have lk := (look_miss (w := w1) (k := .string k) Tryz.underlying304 Tryz.underlying9 trivial (below_heap b1 hM) (zeroWrite w1) (find_none _ _)).2
  have c1 := below_cell b1 (cell_at hT (i := 1) (v := .map (some M)) rfl)
  have s0 := cell_at g1 (i := 0) rfl
  have W1 := hid hw1
  have HS := hid hS
  clear hw1 hS
  go_enter Tryz.func187, Tryz.ntmps187
  go_upto_region 1 with fail
  rw [← W1.out, ← HS.out]
  have h1 := below_heap b1 hM
  have s1 := cell_at g1 (i := 1) rfl
  have s2 := cell_at g1 (i := 2) rfl
  have LK : ∀ w' : World, w'.heap[M]? = some (.map #[] 0) → (Instr.lookup 304 (.map (some M)) (.string k) true).run Tryz.prog w' = .ok (.tuple #[.agg #[.string ⟨#[]⟩, .slice none 0 0, .bool false], .bool false]) w' := fun w' h => (look_miss (k := .string k) Tryz.underlying304 Tryz.underlying9 trivial h (zeroWrite _) (find_none _ _)).2
  have HM := hid (And.intro hM (And.intro b1 g1))
  clear hT hM lk b1 g1
  go_wp2
  refine start_ (n := 13) (S := fun w' => w'.cell? ⟨T, 1, none⟩ = some (.map (some M)) ∧ w'.cell? ⟨S, 0, none⟩ = some (.string k) ∧ w'.heap[M]? = some (.map #[] 0) ∧ (Instr.lookup 304 (.map (some M)) (.string k) true).run Tryz.prog w' = .ok (.tuple #[.agg #[.string ⟨#[]⟩, .slice none 0 0, .bool false], .bool false]) w') (ds := [11]) (tf 13 0) (by kernel_rfl) rfl rfl ⟨c1, s0, h1, (LK _ h1)⟩ (fun hHeld => ?_); refine pure_ (i := 0) (N := some 10) (v := ?_) (a' := ?_) (tf 13 1) rfl rfl (by kernel_rfl) (fun _ _ _ h => h) (Or.inl ⟨by rfl, ?_⟩) ?_ ?_; rotate_left; (· intro w'; go_simp; (with_reducible rfl)); rotate_left; (· simp only [pn_]; rfl); refine pure_ (i := 1) (N := some 11) (v := ?_) (a' := ?_) (tf 13 3) rfl rfl (by kernel_rfl) (fun _ _ _ h => h) (Or.inl ⟨by rfl, ?_⟩) ?_ ?_; rotate_left; (· intro w'; go_simp; (with_reducible rfl)); rotate_left; (· simp only [pn_]; rfl); refine pure_ (i := 2) (N := some 12) (v := ?_) (a' := ?_) (tf 13 7) rfl rfl (by kernel_rfl) (fun _ _ _ h => h) (Or.inl ⟨by rfl, ?_⟩) ?_ ?_; rotate_left; (· intro w'; go_simp; (with_reducible rfl)); rotate_left; (· simp only [pn_]; rfl); refine pure_ (i := 4) (N := some 14) (v := ?_) (a' := ?_) (tf 13 23) rfl rfl (by kernel_rfl) (fun _ _ _ h => h) (Or.inl ⟨by rfl, ?_⟩) ?_ ?_; rotate_left; (· intro w'; go_simp; (with_reducible rfl)); rotate_left; (· simp only [pn_]; rfl); refine take_ (i := 3) (N := some 13) (v := ?_) (a' := ?_) (tf 13 31) rfl rfl (by kernel_rfl) (fun _ _ _ h => h) (Or.inl ⟨by rfl, ?_⟩) hHeld ?_ ?_; rotate_left; (· rintro w' ⟨s0, s1, s2, s3⟩; go_simp; (with_reducible rfl)); rotate_left; (· simp only [pn_]; rfl); refine take_ (i := 5) (N := some 15) (v := ?_) (a' := ?_) (tf 13 63) rfl rfl (by kernel_rfl) (fun _ _ _ h => h) (Or.inl ⟨by rfl, ?_⟩) hHeld ?_ ?_; rotate_left; (· rintro w' ⟨s0, s1, s2, s3⟩; go_simp; (with_reducible rfl)); rotate_left; (· simp only [pn_]; rfl); refine take_ (i := 6) (N := some 16) (v := ?_) (a' := ?_) (tf 13 127) rfl rfl (by kernel_rfl) (fun _ _ _ h => h) (Or.inl ⟨by rfl, ?_⟩) hHeld ?_ ?_; rotate_left; (· rintro w' ⟨s0, s1, s2, s3⟩; go_simp; (with_reducible rfl)); rotate_left; (· simp only [pn_]; rfl); refine pure_ (i := 7) (N := some 9) (v := ?_) (a' := ?_) (tf 13 255) rfl rfl (by kernel_rfl) (fun _ _ _ h => h) (Or.inl ⟨by rfl, ?_⟩) ?_ ?_; rotate_left; (· intro w'; go_simp; (with_reducible rfl)); rotate_left; (· simp only [pn_]; rfl); refine pure_ (i := 8) (N := some 17) (v := ?_) (a' := ?_) (tf 13 511) rfl rfl (by kernel_rfl) (fun _ _ _ h => h) (Or.inl ⟨by rfl, ?_⟩) ?_ ?_; rotate_left; (· intro w'; go_simp; (with_reducible rfl)); rotate_left; (· simp only [pn_]; rfl); refine pure_ (i := 9) (N := some 18) (v := ?_) (a' := ?_) (tf 13 1023) rfl rfl (by kernel_rfl) (fun _ _ _ h => h) (Or.inl ⟨by rfl, ?_⟩) ?_ ?_; rotate_left; (· intro w'; go_simp; (with_reducible rfl)); rotate_left; (· simp only [pn_]; rfl); refine one_ (i := 10) (N := some 5) (tf 13 2047) rfl rfl (by kernel_rfl) (by decide) (fun K hK => ?_); refine value_ (w1 := ?_) (v := ?_) (by rfl) rfl ?_ ?_; rotate_left 2; (· go_simp; constructor; (· rfl); (· rfl)); refine hK.out _ _ ⟨below_cell (below_alloc (Below.refl _ _) (.cells #[.string ⟨#[]⟩, .slice none 0 0, .bool false] 209)) hHeld.1, below_cell (below_alloc (Below.refl _ _) (.cells #[.string ⟨#[]⟩, .slice none 0 0, .bool false] 209)) hHeld.2.1, below_heap (below_alloc (Below.refl _ _) (.cells #[.string ⟨#[]⟩, .slice none 0 0, .bool false] 209)) hHeld.2.2.1, LK _ (below_heap (below_alloc (Below.refl _ _) (.cells #[.string ⟨#[]⟩, .slice none 0 0, .bool false] 209)) hHeld.2.2.1)⟩ (fun hHeld => ?_); clear hK K; refine norm_ (a' := ?_) ?_ ?_; rotate_left; (· show Act.put _ (some 5) _ = _; simp only [pn_]; rfl); refine last_ (i := 11) (N := none) (tf 13 4095) rfl rfl (by kernel_rfl) (by decide) (fun K hK => ?_); refine skip_ (w1 := ?_) (by rfl) rfl ?_ ?_; rotate_left; (· go_simp; rfl); refine hK.out _ _ ?_; clear hK K; refine pure_ (i := 12) (N := some 6) (v := ?_) (a' := ?_) (tf 13 8191) rfl rfl (by kernel_rfl) (fun _ _ _ h => h) (Or.inl ⟨by rfl, ?_⟩) ?_ ?_; rotate_left; (· intro w'; go_simp; (with_reducible rfl)); rotate_left; (· simp only [pn_]; rfl); refine done_ (by kernel_rfl) ?_
  have al := below_alloc (Below.refl _ w1) (.cells #[.string ⟨#[]⟩, .slice none 0 0, .bool false] 209)
  obtain ⟨w2, hw2⟩ : ∃ w2, w2 = (w1.alloc (.cells #[.string ⟨#[]⟩, .slice none 0 0, .bool false] 209)).drew := ⟨_, rfl⟩
  have b2 : Below w1.heap.size w1 w2 := by rw [hw2]; exact al.drew
  rw [← hw2]
  have B2 := hid (below_then HM.out.2.1 b2)
  replace c1 := below_cell b2 c1
  replace s0 := below_cell b2 s0
  replace s1 := below_cell b2 s1
  replace s2 := below_cell b2 s2
  have HM2 := hid (below_heap b2 h1)
  have ln := lenMap w2 M 0 3 HM2.out
  clear al hw2 h1 LK HM b2
  go_wp2
  refine start_ (n := 8) (S := fun w' => w'.cell? ⟨T, 1, none⟩ = some (.map (some M)) ∧ w'.cell? ⟨S, 0, none⟩ = some (.string k) ∧ w'.cell? ⟨S, 1, none⟩ = some (.slice A n c) ∧ w'.cell? ⟨S, 2, none⟩ = some (.bool false)) (ds := [7]) (tf 8 0) (by kernel_rfl) rfl rfl ⟨c1, s0, s1, s2⟩ (fun hHeld => ?_); refine pure_ (i := 0) (N := some 29) (v := ?_) (a' := ?_) (tf 8 1) rfl rfl (by kernel_rfl) (fun _ _ _ h => h) (Or.inl ⟨by rfl, ?_⟩) ?_ ?_; rotate_left; (· intro w'; go_simp; (with_reducible rfl)); rotate_left; (· simp only [pn_]; rfl); refine pure_ (i := 1) (N := some 30) (v := ?_) (a' := ?_) (tf 8 3) rfl rfl (by kernel_rfl) (fun _ _ _ h => h) (Or.inl ⟨by rfl, ?_⟩) ?_ ?_; rotate_left; (· intro w'; go_simp; (with_reducible rfl)); rotate_left; (· simp only [pn_]; rfl); refine pure_ (i := 2) (N := some 31) (v := ?_) (a' := ?_) (tf 8 7) rfl rfl (by kernel_rfl) (fun _ _ _ h => h) (Or.inl ⟨by rfl, ?_⟩) ?_ ?_; rotate_left; (· intro w'; go_simp; (with_reducible rfl)); rotate_left; (· simp only [pn_]; rfl); refine pure_ (i := 4) (N := some 33) (v := ?_) (a' := ?_) (tf 8 23) rfl rfl (by kernel_rfl) (fun _ _ _ h => h) (Or.inl ⟨by rfl, ?_⟩) ?_ ?_; rotate_left; (· intro w'; go_simp; (with_reducible rfl)); rotate_left; (· simp only [pn_]; rfl); refine take_ (i := 3) (N := some 32) (v := ?_) (a' := ?_) (tf 8 31) rfl rfl (by kernel_rfl) (fun _ _ _ h => h) (Or.inl ⟨by rfl, ?_⟩) hHeld ?_ ?_; rotate_left; (· rintro w' ⟨s0, s1, s2, s3⟩; go_simp; (with_reducible rfl)); rotate_left; (· simp only [pn_]; rfl); refine take_ (i := 5) (N := some 34) (v := ?_) (a' := ?_) (tf 8 63) rfl rfl (by kernel_rfl) (fun _ _ _ h => h) (Or.inl ⟨by rfl, ?_⟩) hHeld ?_ ?_; rotate_left; (· rintro w' ⟨s0, s1, s2, s3⟩; go_simp; (with_reducible rfl)); rotate_left; (· simp only [pn_]; rfl); refine take_ (i := 6) (N := some 35) (v := ?_) (a' := ?_) (tf 8 127) rfl rfl (by kernel_rfl) (fun _ _ _ h => h) (Or.inl ⟨by rfl, ?_⟩) hHeld ?_ ?_; rotate_left; (· rintro w' ⟨s0, s1, s2, s3⟩; go_simp; (with_reducible rfl)); rotate_left; (· simp only [pn_]; rfl); refine last_ (i := 7) (N := none) (tf 8 255) rfl rfl (by kernel_rfl) (by decide) (fun K hK => ?_); refine step_put rfl (.tmp 32) (.tmp 34) (.tmp 35) 304 rfl rfl M _ _ (.string k) (.agg #[.string k, .slice A n c, .bool false]) rfl rfl rfl (run_put (k := .string k) Tryz.underlying304 Tryz.underlying9 trivial (show w2.drew.heap[M]? = _ from HM2.out) (find_none _ _) _) ?_; intro w3 p1 p2; refine hK.out _ _ ?_; clear hK K; refine done_ (by kernel_rfl) ?_
  have FF := hid (And.intro (show w3.heap[M]? = some (.map #[entS k (.agg #[.string k, .slice A n c, .bool false]) 0] 1) by simpa [entS] using p1) (show Keeps (fun k => k = M) w w3 from (Keeps.of_below (S := fun k => k = M) B2.out).drew.grown p2 (fun k e _ => by cases e; rfl)))
  clear p1 p2
  go_wp2
  go_ret
  exact ⟨rfl, FF.out⟩
set_option maxHeartbeats 800000 in
theorem txput_any {w : World} {T M : Nat} {k : ByteArray} {A : Option Addr} {n c : Nat} {row : List UInt8} (hT : w.heap[T]? = some (.cells (txC M) 306 (0, 0))) (hM : w.heap[M]? = some (.map #[] 0)) (hn : row.length = n) (hA : BSA w A c row) (hr : n ≤ 1000000) :
    Calls Tryz.prog 137 #[.pointer (some ⟨T, 0, none⟩), .string k, .slice A n c] w fun e w' => e = .returned (.int .i64 0) ∧ (∃ r, w'.heap[M]? = some (.map #[entS k (.agg #[.string k, r, .bool false]) 0] 1) ∧ OwnB w' r row ∧ ∀ g, r.ownBlock = some g → w.heap.size ≤ g) ∧ Keeps (fun k => k = M) w w' := by
  subst hn
  have H := hid (clone_any hA (by omega))
  have HT := hid (And.intro hT hM)
  clear hT hM hA
  go_enter Tryz.func137, Tryz.ntmps137
  go_wp2_with fail
  refine H.out.mono ?_
  rintro e w1 ⟨A1, c1, rfl, o1, f1, b1⟩
  have O1 := hid (And.intro o1 (And.intro f1 b1))
  have G := hid (txwrite_any (k := k) (A := A1) (n := row.length) (c := c1) (below_heap b1 HT.out.1) (below_heap b1 HT.out.2))
  clear H o1 f1 b1
  go_wp2_with fail
  refine G.out.mono ?_
  rintro e w2 ⟨rfl, m2, k2⟩
  have FF := hid (And.intro (show ∃ r, w2.heap[M]? = some (.map #[entS k (.agg #[.string k, r, .bool false]) 0] 1) ∧ OwnB w2 r row ∧ ∀ g, r.ownBlock = some g → w.heap.size ≤ g from
    ⟨_, m2, Keeps.own k2 O1.out.1 (fun g e hg => by have := O1.out.2.1 g e; have := lt_of_block HT.out.2; omega), O1.out.2.1⟩) (show Keeps (fun k => k = M) w w2 from (Keeps.of_below (S := fun k => k = M) O1.out.2.2).then k2 (fun _ _ e => e)))
  clear m2 k2 G
  go_wp2
  go_ret
  exact ⟨rfl, FF.out⟩
def wcells : List (ByteArray × Value) → List Value
  | [] => []
  | x :: l => .string x.1 :: x.2 :: .bool false :: wcells l
theorem infoW : (Tryz.prog.info? 209).map (fun i => (i.zero, i.size, i.bytes)) = some (some (.agg #[.string ⟨#[]⟩, .slice none 0 0, .bool false]), 3, 48) := by kernel_rfl
theorem slice_of {w : World} {base e size n c : Nat} {A : Option Addr} {xs : List Value} (h : w.ownsRow base e size (.slice A n c) n xs) (h0 : 0 < n) : ∃ g, A = some ⟨g, 0, none⟩ := by
  rcases h.2 with ⟨_, h1⟩ | ⟨g, cap, cur, e', _⟩
  · omega
  · cases e'; exact ⟨g, rfl⟩
set_option maxRecDepth 100000 in
set_option maxHeartbeats 1600000 in
theorem writes_one {w : World} {T M : Nat} {k : ByteArray} {r : Value} {row : List UInt8} (hT : w.heap[T]? = some (.cells (txC M) 306 (0, 0))) (hM : w.heap[M]? = some (.map #[entS k (.agg #[.string k, r, .bool false]) 0] 1)) (hr : OwnB w r row) (hk : k.size ≤ 1000) (hl : row.length ≤ 1000000) :
    Calls Tryz.prog 141 #[.pointer (some ⟨T, 0, none⟩)] w fun e w' => ∃ g c r', e = .returned (.slice (some ⟨g, 0, none⟩) 1 c) ∧ w'.ownsRow 0 209 3 (.slice (some ⟨g, 0, none⟩) 1 c) 1 (wcells [(k, r')]) ∧ w.heap.size ≤ g ∧ OwnB w' r' row ∧ (∀ g, r'.ownBlock = some g → w.heap.size ≤ g) ∧ Below w.heap.size w w' := by
  have c1 := cell_at hT (i := 1) (v := .map (some M)) rfl
  have K := hid (wkeys_any (w := w) (some M))
  have SO := hid (wsorted_one hM hk)
  have HH := hid (And.intro hT (And.intro hM hr))
  clear hT hM hr
  go_enter Tryz.func141, Tryz.ntmps141
  go_wp2_with fail
  refine K.out.mono ?_
  rintro e w1 ⟨rfl, hw1⟩
  rw [hw1]
  go_wp2_with fail
  refine SO.out.mono ?_
  rintro e w2 ⟨g, c, rfl, cg, b2⟩
  have B2 := hid b2
  have hM2 := below_heap b2 HH.out.2.1
  replace c1 := below_cell b2 c1
  have lk := (look_hit (k := .string k) Tryz.underlying304 Tryz.underlying9 trivial hM2 (find_one k _ 0 [])).1
  have R2 := hid (HH.out.2.2.below b2)
  clear K SO b2 hM2 hw1
  obtain ⟨A, m, rfl, ba⟩ := HH.out.2.2.bs
  go_wp2
  refine wp_loop_rounds 2 ?_
  rw [rounds_succ]
  obtain ⟨S, hS⟩ : ∃ S, S = w2.heap.size := ⟨_, rfl⟩
  obtain ⟨w3, hw3⟩ : ∃ w3, w3 = w2.alloc (.cells #[.string k, .slice A row.length m, .bool false] 209) := ⟨_, rfl⟩
  have b3 : Below w2.heap.size w2 w3 := by rw [hw3]; exact below_alloc (Below.refl _ _) _
  have g3 : w3.heap[S]? = some (.cells #[.string k, .slice A row.length m, .bool false] 209 (0, 0)) := by rw [hw3, hS]; exact heap_alloc_new _ _
  have HC := hid (clone_any (BSA.below (BSA.below ba B2.out) b3) (by omega))
  have W3 := hid hw3
  have HS := hid hS
  have B3 := hid (below_then B2.out b3)
  have G3 := hid g3
  clear b3 g3 hw3 hS ba
  go_upto_region 8 with fail
  rw [← W3.out, ← HS.out]
  have s0 := cell_at G3.out (i := 0) rfl
  have s1 := cell_at G3.out (i := 1) rfl
  have s2 := cell_at G3.out (i := 2) rfl
  go_wp2_with fail
  refine HC.out.mono ?_
  rintro e w4 ⟨A4, c4, rfl, o4, f4, b4⟩
  replace G3 := hid (below_heap b4 G3.out)
  have B4 := hid (below_then B3.out b4)
  have O4 := hid (And.intro o4 f4)
  have SZ := hid (And.intro (lt_of_block G3.out) B3.out.size)
  replace s0 := cell_at G3.out (i := 0) rfl
  replace s1 := cell_at G3.out (i := 1) rfl
  replace s2 := cell_at G3.out (i := 2) rfl
  have f1 := free_at G3.out 1
  obtain ⟨i0, hi, hz0, hz1, hz2⟩ := info_parts infoW
  clear HC W3 cg c1 lk o4 f4 b4
  go_wp2_with (at_builtin; refine wpList_app rfl (.tmp 30) (.tmp 32) 102 rfl 209 i0 (.agg #[.string ⟨#[]⟩, .slice none 0 0, .bool false]) 3 48 Tryz.underlying102 hi hz0 hz1 hz2 rfl (by decide) _ 0 [] rfl (World.ownsRow_nil _ _ _ _) (some ⟨w4.heap.size, 0, none⟩) 1 1 [.string k, .slice A4 row.length c4, .bool false] rfl rfl (fun e => by cases e) (by intro ad e j u hu; cases e; rw [add_plain]; have h := heap_alloc_new (w4.setCell ⟨S, 1, none⟩ (.slice A4 row.length c4)) (.cells #[.string k, .slice A4 row.length c4, .bool false] 209); rw [World.size_setCell] at h; exact cell_at h (by simpa using hu)) (by intro u hu; simp at hu; rcases hu with rfl | rfl | rfl <;> rfl) (by unfold maxLen; omega) (by omega) ?_)
  intro A5 c5 w5 m1 m2 m3
  have FIN : ∃ g c r', Value.slice A5 1 c5 = .slice (some ⟨g, 0, none⟩) 1 c ∧ w5.ownsRow 0 209 3 (.slice (some ⟨g, 0, none⟩) 1 c) 1 (wcells [(k, r')]) ∧ w.heap.size ≤ g ∧ OwnB w5 r' row ∧ (∀ g, r'.ownBlock = some g → w.heap.size ≤ g) ∧ Below w.heap.size w w5 := by
    have kt : KT [209] [] [] w4 w5 := (((KT.refl _ _ _ w4).set (p := ⟨S, 1, none⟩) G3.out (.head _) _).alloc _).grownNew m2 (fun k e => by simp [Value.ownBlock] at e)
    try simp only [List.nil_append, Nat.zero_add] at m1 m3
    obtain ⟨g5, rfl⟩ := slice_of m1 (by omega)
    have hs4 := O4.out.1.lt
    have hS := HS.out
    have hsz := B2.out.size
    have hs5 : w.heap.size ≤ w4.heap.size := B4.out.size
    refine ⟨g5, c5, .slice A4 row.length c4, rfl, m1, ?_, OwnB.keeps O4.out.1 kt (by decide) (fun _ _ h => by cases h), fun q e => ?_, ?_⟩
    · rcases m3 with e | e
      · simp [Value.ownBlock] at e
      · simp [Value.ownBlock] at e; omega
    · have := O4.out.2 q e; have := SZ.out.2; omega
    · exact ((B4.out.setCell (by show w.heap.size ≤ S; omega) _).alloc (by simp; omega) _).grown m2 (by simp; omega) (fun k e => by simp [Value.ownBlock] at e)
  have FF := hid FIN
  clear FIN m1 m2 m3 f1 s0 s1 s2
  go_wp2
  rw [rounds_succ]
  go_wp2
  go_ret
  obtain ⟨g5, c6, r', e5, q⟩ := FF.out
  exact ⟨g5, c6, r', by rw [← e5]; rfl, q⟩
theorem zeroB (w : World) : (zeroValue 4).run Tryz.prog w = .ok (.bool false) w := by kernel_rfl
set_option maxRecDepth 100000 in
set_option maxHeartbeats 1600000 in
theorem late1_any {w : World} {B3 B2 T M S SM n : Nat} {now : Int} {es : Array MapEntry} {k : ByteArray} {A : Option Addr} {m c : Nat} {t3 t2 : TypeId} (h3 : w.heap[B3]? = some (.cells #[.pointer (some ⟨S, 0, none⟩)] t3 (0, 0))) (h2 : w.heap[B2]? = some (.cells #[.pointer (some ⟨T, 0, none⟩)] t2 (0, 0)))
    (hT : w.heap[T]? = some (.cells (txC M) 306 (0, 0))) (hS : w.heap[S]? = some (.cells (stoC SM now) 137 (0, 0))) (hSM : w.heap[SM]? = some (.map es n)) (hf : Instr.findNow .string (.string k) es.toList 0 = some none) :
    Calls Tryz.prog 228 #[.agg #[.string k, .slice A m c, .bool false], .pointer (some ⟨B3, 0, none⟩), .pointer (some ⟨B2, 0, none⟩)] w fun e w' => e = .returned (.bool false) ∧ Below w.heap.size w w' := by
  obtain ⟨Z, hZ⟩ : ∃ Z, Z = w.heap.size := ⟨_, rfl⟩
  obtain ⟨w1, hw1⟩ : ∃ w1, w1 = w.alloc (.cells #[.string k, .slice A m c, .bool false] 209) := ⟨_, rfl⟩
  have b1 : Below w.heap.size w w1 := by rw [hw1]; exact below_alloc (Below.refl _ _) _
  have g1 : w1.heap[Z]? = some (.cells #[.string k, .slice A m c, .bool false] 209 (0, 0)) := by rw [hw1, hZ]; exact heap_alloc_new _ _
  have d3 := cell_of_one (below_heap b1 h3)
  have d2 := cell_of_one (below_heap b1 h2)
  have z0 := cell_at g1 (i := 0) rfl
  have cT := cell_at (below_heap b1 hT) (i := 0) (v := .int .i64 0) rfl
  have HL := hid (slast_miss (w := w1.drew) (below_heap b1 hS) (below_heap b1 hSM) hf)
  have W1 := hid (And.intro hw1 hZ)
  have B1 := hid b1
  clear h3 h2 hT hS hSM b1 g1 hw1 hZ hf
  go_enter Tryz.func228, Tryz.ntmps228
  go_upto_region 1 with fail
  rw [← W1.out.1, ← W1.out.2]
  refine start_ (n := 10) (S := fun w' => w'.cell? ⟨B3, 0, none⟩ = some (.pointer (some ⟨S, 0, none⟩)) ∧ w'.cell? ⟨Z, 0, none⟩ = some (.string k) ∧ w'.cell? ⟨B2, 0, none⟩ = some (.pointer (some ⟨T, 0, none⟩)) ∧ w'.cell? ⟨T, 0, none⟩ = some (.int .i64 0)) (ds := []) (tf 10 0) (by kernel_rfl) rfl rfl ⟨d3, z0, d2, cT⟩ (fun hHeld => ?_); refine pure_ (i := 1) (N := some 6) (v := ?_) (a' := ?_) (tf 10 2) rfl rfl (by kernel_rfl) (fun _ _ _ h => h) (Or.inl ⟨by rfl, ?_⟩) ?_ ?_; rotate_left; (· intro w'; go_simp; (with_reducible rfl)); rotate_left; (· simp only [pn_]; rfl); refine take_ (i := 0) (N := some 5) (v := ?_) (a' := ?_) (tf 10 3) rfl rfl (by kernel_rfl) (fun _ _ _ h => h) (Or.inl ⟨by rfl, ?_⟩) hHeld ?_ ?_; rotate_left; (· rintro w' ⟨s0, s1, s2, s3⟩; go_simp; (with_reducible rfl)); rotate_left; (· simp only [pn_]; rfl); refine take_ (i := 2) (N := some 7) (v := ?_) (a' := ?_) (tf 10 7) rfl rfl (by kernel_rfl) (fun _ _ _ h => h) (Or.inl ⟨by rfl, ?_⟩) hHeld ?_ ?_; rotate_left; (· rintro w' ⟨s0, s1, s2, s3⟩; go_simp; (with_reducible rfl)); rotate_left; (· simp only [pn_]; rfl); refine take_ (i := 4) (N := some 9) (v := ?_) (a' := ?_) (tf 10 23) rfl rfl (by kernel_rfl) (fun _ _ _ h => h) (Or.inl ⟨by rfl, ?_⟩) hHeld ?_ ?_; rotate_left; (· rintro w' ⟨s0, s1, s2, s3⟩; go_simp; (with_reducible rfl)); rotate_left; (· simp only [pn_]; rfl); refine pure_ (i := 5) (N := some 10) (v := ?_) (a' := ?_) (tf 10 55) rfl rfl (by kernel_rfl) (fun _ _ _ h => h) (Or.inl ⟨by rfl, ?_⟩) ?_ ?_; rotate_left; (· intro w'; go_simp; (with_reducible rfl)); rotate_left; (· simp only [pn_]; rfl); refine pure_ (i := 6) (N := some 11) (v := ?_) (a' := ?_) (tf 10 119) rfl rfl (by kernel_rfl) (fun _ _ _ h => h) (Or.inl ⟨by rfl, ?_⟩) ?_ ?_; rotate_left; (· intro w'; go_simp; (with_reducible rfl)); rotate_left; (· simp only [pn_]; rfl); refine take_ (i := 7) (N := some 12) (v := ?_) (a' := ?_) (tf 10 247) rfl rfl (by kernel_rfl) (fun _ _ _ h => h) (Or.inl ⟨by rfl, ?_⟩) hHeld ?_ ?_; rotate_left; (· rintro w' ⟨s0, s1, s2, s3⟩; go_simp; (with_reducible rfl)); rotate_left; (· simp only [pn_]; rfl); refine one_ (i := 3) (N := some 8) (tf 10 255) rfl rfl (by kernel_rfl) (by decide) (fun K hK => ?_); refine goes_ Tryz.func229 (by kernel_rfl) rfl #[.pointer (some ⟨S, 0, none⟩), .string k] (by rfl) rfl rfl (by simp only [List.map_toArray, List.map_cons, List.map_nil]; rfl) ?_; (with_reducible refine (HL.out).mono ?_); rintro e w2 ⟨rfl, rfl⟩; refine ⟨_, rfl, ?_⟩; refine hK.out _ _ ⟨hHeld.1, hHeld.2.1, hHeld.2.2.1, hHeld.2.2.2⟩ (fun hHeld => ?_); clear hK K; refine norm_ (a' := ?_) ?_ ?_; rotate_left; (· show Act.put _ (some 8) _ = _; simp only [pn_]; rfl); refine pure_ (i := 8) (N := some 13) (v := ?_) (a' := ?_) (tf 10 511) rfl rfl (by kernel_rfl) (fun _ _ _ h => h) (Or.inl ⟨by rfl, ?_⟩) ?_ ?_; rotate_left; (· intro w'; go_simp; (with_reducible rfl)); rotate_left; (· simp only [pn_]; rfl); refine pure_ (i := 9) (N := some 4) (v := ?_) (a' := ?_) (tf 10 1023) rfl rfl (by kernel_rfl) (fun _ _ _ h => h) (Or.inl ⟨by rfl, ?_⟩) ?_ ?_; rotate_left; (· intro w'; go_simp; (with_reducible rfl)); rotate_left; (· simp only [pn_]; rfl); refine done_ (by kernel_rfl) ?_
  go_wp2
  go_ret
  exact ⟨rfl, B1.out.drew⟩
set_option maxRecDepth 100000 in
theorem meets1_any {w : World} {B3 Q n : Nat} {es : Array MapEntry} {k : ByteArray} {A : Option Addr} {m c : Nat} {t3 : TypeId} (h3 : w.heap[B3]? = some (.cells #[.map (some Q)] t3 (0, 0))) (hQ : w.heap[Q]? = some (.map es n)) (hf : Instr.findNow .string (.string k) es.toList 0 = some none) :
    Calls Tryz.prog 230 #[.agg #[.string k, .slice A m c, .bool false], .pointer (some ⟨B3, 0, none⟩)] w fun e w' => e = .returned (.bool false) ∧ Below w.heap.size w w' := by
  have b1 := below_alloc (Below.refl _ w) (.cells #[.string k, .slice A m c, .bool false] 209)
  have d3 := cell_of_one (below_heap b1 h3)
  have lk := (look_miss (k := .string k) Tryz.underlying193 Tryz.underlying9 trivial (below_heap b1 hQ) (zeroB _) hf).1
  clear h3 hQ b1 hf
  go_enter Tryz.func230, Tryz.ntmps230
  go_wp2
  go_ret
  exact ⟨rfl, by go_grown⟩
theorem row_news {w : World} {base e g m c n : Nat} {xs : List Value} (h : w.ownsRow base e 3 (.slice (some ⟨g, 0, none⟩) m c) n xs) (j : Nat) (u : Value) (hu : xs[j]? = some u) : w.cell? ⟨g, j, none⟩ = some u := by
  have := h.cells (g := g) rfl j u hu
  rwa [add_plain] at this
theorem idx_late {w : World} {B3 B2 : Nat} {g c m d : Nat} {A : Option Addr} {k : ByteArray} (hR : w.ownsRow 0 209 3 (.slice (some ⟨g, 0, none⟩) 1 c) 1 (wcells [(k, .slice A m d)])) (h : Calls Tryz.prog 228 #[.agg #[.string k, .slice A m d, .bool false], .pointer (some ⟨B3, 0, none⟩), .pointer (some ⟨B2, 0, none⟩)] w fun e w' => e = .returned (.bool false) ∧ Below w.heap.size w w') :
    Calls Tryz.prog 250 #[.slice (some ⟨g, 0, none⟩) 1 c, .func (.func 228) #[] #[.pointer (some ⟨B3, 0, none⟩), .pointer (some ⟨B2, 0, none⟩)]] w fun e w' => e = .returned (.int .i64 (-1)) ∧ Below w.heap.size w w' := by
  have r0 := row_news hR 0 _ rfl
  have r1 := row_news hR 1 _ rfl
  have r2 := row_news hR 2 _ rfl
  have H := hid h
  clear h hR
  go_enter Tryz.func250, Tryz.ntmps250
  go_wp2
  refine wp_loop_rounds 2 ?_
  rw [rounds_succ]
  go_wp2_with fail
  refine H.out.mono ?_
  rintro e w1 ⟨rfl, b1⟩
  clear H
  go_wp2
  rw [rounds_succ]
  go_wp2
  go_ret
  exact ⟨rfl, b1⟩
theorem cont_late {w : World} {B3 B2 : Nat} {g c m d : Nat} {A : Option Addr} {k : ByteArray} (hR : w.ownsRow 0 209 3 (.slice (some ⟨g, 0, none⟩) 1 c) 1 (wcells [(k, .slice A m d)])) (h : Calls Tryz.prog 228 #[.agg #[.string k, .slice A m d, .bool false], .pointer (some ⟨B3, 0, none⟩), .pointer (some ⟨B2, 0, none⟩)] w fun e w' => e = .returned (.bool false) ∧ Below w.heap.size w w') :
    Calls Tryz.prog 227 #[.slice (some ⟨g, 0, none⟩) 1 c, .func (.func 228) #[] #[.pointer (some ⟨B3, 0, none⟩), .pointer (some ⟨B2, 0, none⟩)]] w fun e w' => e = .returned (.bool false) ∧ Below w.heap.size w w' := by
  have H := hid (idx_late hR h)
  clear h hR
  go_enter Tryz.func227, Tryz.ntmps227
  go_wp2_with fail
  refine H.out.mono ?_
  rintro e w1 ⟨rfl, b1⟩
  clear H
  go_wp2
  go_ret
  exact ⟨rfl, b1⟩
theorem idx_meets {w : World} {B3 : Nat} {g c m d : Nat} {A : Option Addr} {k : ByteArray} (hR : w.ownsRow 0 209 3 (.slice (some ⟨g, 0, none⟩) 1 c) 1 (wcells [(k, .slice A m d)])) (h : Calls Tryz.prog 230 #[.agg #[.string k, .slice A m d, .bool false], .pointer (some ⟨B3, 0, none⟩)] w fun e w' => e = .returned (.bool false) ∧ Below w.heap.size w w') :
    Calls Tryz.prog 250 #[.slice (some ⟨g, 0, none⟩) 1 c, .func (.func 230) #[] #[.pointer (some ⟨B3, 0, none⟩)]] w fun e w' => e = .returned (.int .i64 (-1)) ∧ Below w.heap.size w w' := by
  have r0 := row_news hR 0 _ rfl
  have r1 := row_news hR 1 _ rfl
  have r2 := row_news hR 2 _ rfl
  have H := hid h
  clear h hR
  go_enter Tryz.func250, Tryz.ntmps250
  go_wp2
  refine wp_loop_rounds 2 ?_
  rw [rounds_succ]
  go_wp2_with fail
  refine H.out.mono ?_
  rintro e w1 ⟨rfl, b1⟩
  clear H
  go_wp2
  rw [rounds_succ]
  go_wp2
  go_ret
  exact ⟨rfl, b1⟩
theorem cont_meets {w : World} {B3 : Nat} {g c m d : Nat} {A : Option Addr} {k : ByteArray} (hR : w.ownsRow 0 209 3 (.slice (some ⟨g, 0, none⟩) 1 c) 1 (wcells [(k, .slice A m d)])) (h : Calls Tryz.prog 230 #[.agg #[.string k, .slice A m d, .bool false], .pointer (some ⟨B3, 0, none⟩)] w fun e w' => e = .returned (.bool false) ∧ Below w.heap.size w w') :
    Calls Tryz.prog 227 #[.slice (some ⟨g, 0, none⟩) 1 c, .func (.func 230) #[] #[.pointer (some ⟨B3, 0, none⟩)]] w fun e w' => e = .returned (.bool false) ∧ Below w.heap.size w w' := by
  have H := hid (idx_meets hR h)
  clear h hR
  go_enter Tryz.func227, Tryz.ntmps227
  go_wp2_with fail
  refine H.out.mono ?_
  rintro e w1 ⟨rfl, b1⟩
  clear H
  go_wp2
  go_ret
  exact ⟨rfl, b1⟩
set_option maxHeartbeats 800000 in
theorem late_no {w : World} {T M S SM n : Nat} {now : Int} {es : Array MapEntry} {k : ByteArray} {r : Value} {row : List UInt8} (hT : w.heap[T]? = some (.cells (txC M) 306 (0, 0))) (hM : w.heap[M]? = some (.map #[entS k (.agg #[.string k, r, .bool false]) 0] 1)) (hr : OwnB w r row) (hk : k.size ≤ 1000) (hl : row.length ≤ 1000000)
    (hS : w.heap[S]? = some (.cells (stoC SM now) 137 (0, 0))) (hSM : w.heap[SM]? = some (.map es n)) (hf : Instr.findNow .string (.string k) es.toList 0 = some none) :
    Calls Tryz.prog 199 #[.pointer (some ⟨T, 0, none⟩), .pointer (some ⟨S, 0, none⟩)] w fun e w' => e = .returned (.bool false) ∧ Below w.heap.size w w' := by
  have al := below_alloc (below_alloc (Below.refl _ w) (.cells #[.pointer (some ⟨T, 0, none⟩)] 233)) (.cells #[.pointer (some ⟨S, 0, none⟩)] 90)
  have hB0 := heap_alloc2_old w (.cells #[.pointer (some ⟨T, 0, none⟩)] 233) (.cells #[.pointer (some ⟨S, 0, none⟩)] 90)
  have hB1 := heap_alloc2_new w (.cells #[.pointer (some ⟨T, 0, none⟩)] 233) (.cells #[.pointer (some ⟨S, 0, none⟩)] 90)
  have H := hid (writes_one (below_heap al hT) (below_heap al hM) (hr.below al) hk hl)
  have FF := hid (And.intro hB0 (And.intro hB1 (And.intro (below_heap al hT) (And.intro (below_heap al hS) (And.intro (below_heap al hSM) al)))))
  clear hT hM hr hS hSM hB0 hB1 al
  go_enter Tryz.func199, Tryz.ntmps199
  go_wp2_with fail
  refine H.out.mono ?_
  rintro e w1 ⟨g, c, r', rfl, o1, -, o2, -, b1⟩
  obtain ⟨A, m, rfl, -⟩ := o2.bs
  have HL := hid (cont_late o1 (late1_any (A := A) (m := row.length) (c := m) (below_heap b1 FF.out.2.1) (below_heap b1 FF.out.1) (below_heap b1 FF.out.2.2.1) (below_heap b1 FF.out.2.2.2.1) (below_heap b1 FF.out.2.2.2.2.1) hf))
  have B1 := hid (below_then FF.out.2.2.2.2.2 b1)
  clear H o1 o2 b1 FF hf
  go_wp2_with fail
  refine HL.out.mono ?_
  rintro e w2 ⟨rfl, b2⟩
  have B2 := hid (below_then B1.out b2)
  clear HL B1 b2
  go_wp2
  go_ret
  exact ⟨rfl, B2.out⟩
set_option maxHeartbeats 800000 in
theorem meets_no {w : World} {T M Q n : Nat} {es : Array MapEntry} {k : ByteArray} {r : Value} {row : List UInt8} (hT : w.heap[T]? = some (.cells (txC M) 306 (0, 0))) (hM : w.heap[M]? = some (.map #[entS k (.agg #[.string k, r, .bool false]) 0] 1)) (hr : OwnB w r row) (hk : k.size ≤ 1000) (hl : row.length ≤ 1000000)
    (hQ : w.heap[Q]? = some (.map es n)) (hf : Instr.findNow .string (.string k) es.toList 0 = some none) :
    Calls Tryz.prog 200 #[.pointer (some ⟨T, 0, none⟩), .map (some Q)] w fun e w' => e = .returned (.bool false) ∧ Below w.heap.size w w' := by
  have al := below_alloc (Below.refl _ w) (.cells #[.map (some Q)] 193)
  have hB0 := heap_alloc_new w (.cells #[.map (some Q)] 193)
  have H := hid (writes_one (below_heap al hT) (below_heap al hM) (hr.below al) hk hl)
  have FF := hid (And.intro hB0 (And.intro (below_heap al hQ) al))
  clear hT hM hr hQ hB0 al
  go_enter Tryz.func200, Tryz.ntmps200
  go_wp2_with fail
  refine H.out.mono ?_
  rintro e w1 ⟨g, c, r', rfl, o1, -, o2, -, b1⟩
  obtain ⟨A, m, rfl, -⟩ := o2.bs
  have HL := hid (cont_meets o1 (meets1_any (A := A) (m := row.length) (c := m) (below_heap b1 FF.out.1) (below_heap b1 FF.out.2.1) hf))
  have B1 := hid (below_then FF.out.2.2 b1)
  clear H o1 o2 b1 FF hf
  go_wp2_with fail
  refine HL.out.mono ?_
  rintro e w2 ⟨rfl, b2⟩
  have B2 := hid (below_then B1.out b2)
  clear HL B1 b2
  go_wp2
  go_ret
  exact ⟨rfl, B2.out⟩
def TabK (w : World) (T C : Nat) : Prop := TabAt w T C ∧ (∃ cs, w.heap[T]? = some (.cells cs 72 (0, 0))) ∧ ∃ cs, w.heap[C]? = some (.cells cs 69 (0, 0))
theorem TabK.keeps {w w' : World} {ts : List TypeId} {ms rs : List Nat} {T C : Nat} (h : TabK w T C) (hk : KT ts ms rs w w') (ht : 72 ∉ ts ∧ 69 ∉ ts) : TabK w' T C := by
  obtain ⟨h0, ⟨c1, h1⟩, c2, h2⟩ := h
  have e1 := hk.cells h1 ⟨ht.1, by decide⟩
  have e2 := hk.cells h2 ⟨ht.2, by decide⟩
  have q : ∀ (b i : Nat) (v : Value), (w'.heap[b]? = w.heap[b]?) → w.cell? ⟨b, i, none⟩ = some v → w'.cell? ⟨b, i, none⟩ = some v := fun b i v e hv => (World.cell?_of_block e).trans hv
  have eT := e1.trans h1.symm
  have eC := e2.trans h2.symm
  exact ⟨⟨q _ _ _ eT h0.name, q _ _ _ eT h0.cols, q _ _ _ eT h0.keys, q _ _ _ eC h0.cname, q _ _ _ eC h0.ckind, q _ _ _ eC h0.cnull⟩, ⟨c1, e1⟩, c2, e2⟩
theorem TabK.below {w w' : World} {T C : Nat} (h : TabK w T C) (hb : Below w.heap.size w w') : TabK w' T C := h.keeps (KT.of_below (ts := []) (ms := []) (rs := []) hb) (by decide)
set_option maxHeartbeats 1600000 in
theorem check_one {w : World} {T C X n c cc : Nat} (h : TabK w T C) (hx : ValsAt w X n) (hcc : 1 ≤ cc) : Calls Tryz.prog 186 #[.slice (some ⟨C, 0, none⟩) 1 cc, .slice (some ⟨X, 0, none⟩) 1 c] w fun e w' => e = .returned (.int .i64 0) ∧ Below w.heap.size w w' := by
  obtain ⟨x0, x1, x2⟩ := hx.get
  obtain ⟨S, hS⟩ : ∃ S, S = w.heap.size := ⟨_, rfl⟩
  obtain ⟨w1, hw1⟩ : ∃ w1, w1 = w.alloc (.cells #[.int .u8 1, .int .i64 (n : Int), .string ⟨#[]⟩] 32) := ⟨_, rfl⟩
  have b1 : Below w.heap.size w w1 := by rw [hw1]; exact below_alloc (Below.refl _ _) _
  have g1 : w1.heap[S]? = some (.cells #[.int .u8 1, .int .i64 (n : Int), .string ⟨#[]⟩] 32 (0, 0)) := by rw [hw1, hS]; exact heap_alloc_new _ _
  have k0 := below_cell b1 h.1.cname
  have k1 := below_cell b1 h.1.ckind
  have k2 := below_cell b1 h.1.cnull
  obtain ⟨S2, hS2⟩ : ∃ S2, S2 = w1.heap.size := ⟨_, rfl⟩
  obtain ⟨w2, hw2⟩ : ∃ w2, w2 = w1.alloc (.cells #[.string ⟨#[97]⟩, .int .u8 1, .bool false] 69) := ⟨_, rfl⟩
  have b2 : Below w1.heap.size w1 w2 := by rw [hw2]; exact below_alloc (Below.refl _ _) _
  have g2 : w2.heap[S2]? = some (.cells #[.string ⟨#[97]⟩, .int .u8 1, .bool false] 69 (0, 0)) := by rw [hw2, hS2]; exact heap_alloc_new _ _
  have W1 := hid (And.intro hw1 hS)
  have W2 := hid (And.intro hw2 hS2)
  have BB := hid (below_then b1 b2)
  have G1 := hid (And.intro (below_heap b2 g1) g2)
  clear hx h hw1 hw2 hS hS2 b1 b2 g1 g2
  go_enter Tryz.func186, Tryz.ntmps186
  go_wp2
  refine wp_loop_rounds 2 ?_
  rw [rounds_succ]
  go_upto_region 6 with fail
  rw [← W1.out.1, ← W1.out.2]
  go_upto_region 7 with fail
  rw [← W2.out.1, ← W2.out.2]
  have s0 := cell_at G1.out.1 (i := 0) rfl
  have s1 := cell_at G1.out.1 (i := 1) rfl
  have s2 := cell_at G1.out.1 (i := 2) rfl
  have HV := hid (vright_any (w := w2) (n := n))
  unfold valV at HV
  clear x0 x1 x2 k0 k1 k2
  go_wp2_with fail
  refine HV.out.mono ?_
  rintro e w3 ⟨rfl, b3⟩
  have B3 := hid (below_then BB.out b3)
  have q1 := below_heap b3 G1.out.1
  have q2 := below_heap b3 G1.out.2
  have t0 := cell_at q1 (i := 0) rfl
  have u1 := cell_at q2 (i := 1) rfl
  have u2 := cell_at q2 (i := 2) rfl
  clear HV b3 q1 q2 s0 s1 s2 BB
  go_wp2
  rw [rounds_succ]
  go_wp2
  go_ret
  exact ⟨rfl, B3.out⟩
set_option maxHeartbeats 800000 in
theorem has_one {w : World} {T c : Nat} : Calls Tryz.prog 185 #[.slice (some ⟨T, 0, none⟩) 1 c, .int .i64 0] w fun e w' => e = .returned (.bool true) ∧ w = w' := by
  go_enter Tryz.func185, Tryz.ntmps185
  go_wp2
  go_ret
  exact ⟨rfl, rfl⟩
theorem checkT_one {w : World} {T C X n c c2 : Nat} (h : TabK w T C) (hx : ValsAt w X n) : Calls Tryz.prog 136 #[.slice (some ⟨T, 0, none⟩) 1 c, .int .i64 0, .slice (some ⟨X, 0, none⟩) 1 c2] w fun e w' => e = .returned (.int .i64 0) ∧ Below w.heap.size w w' := by
  have k1 := h.1.cols
  have H := hid (check_one (c := c2) (cc := 1) h hx (by omega))
  clear h hx
  go_enter Tryz.func136, Tryz.ntmps136
  go_wp2_with fail
  refine has_one.mono ?_
  rintro e w1 ⟨rfl, rfl⟩
  go_wp2_with fail
  refine H.out.mono ?_
  rintro e w1 ⟨rfl, b1⟩
  clear H
  go_wp2
  go_ret
  exact ⟨rfl, b1⟩
set_option maxRecDepth 100000 in
theorem checkK_one {w : World} {T C X n c c2 : Nat} (h : TabK w T C) (hx : ValsAt w X n) : Calls Tryz.prog 146 #[.slice (some ⟨T, 0, none⟩) 1 c, .int .i64 0, .slice (some ⟨X, 0, none⟩) 1 c2] w fun e w' => e = .returned (.int .i64 0) ∧ Below w.heap.size w w' := by
  have k1 := h.1.cols
  have k2 := h.1.keys
  have H := hid (check_one (w := w.drew) (c := c2) (cc := 1) (h.below (Below.refl _ w).drew) (hx.below (Below.refl _ w).drew) (by omega))
  clear h hx
  go_enter Tryz.func146, Tryz.ntmps146
  go_wp2_with fail
  refine has_one.mono ?_
  rintro e w1 ⟨rfl, rfl⟩
  go_wp2
  refine start_ (n := 14) (S := fun w' => w'.cell? ⟨T, 1, none⟩ = some (.slice (some ⟨C, 0, none⟩) 1 1) ∧ w'.cell? ⟨T, 2, none⟩ = some (.int .i64 1)) (ds := [12]) (tf 14 0) (by kernel_rfl) rfl rfl ⟨k1, k2⟩ (fun hHeld => ?_); refine pure_ (i := 0) (N := some 11) (v := ?_) (a' := ?_) (tf 14 1) rfl rfl (by kernel_rfl) (fun _ _ _ h => h) (Or.inl ⟨by rfl, ?_⟩) ?_ ?_; rotate_left; (· intro w'; go_simp; (with_reducible rfl)); rotate_left; (· simp only [pn_]; rfl); refine pure_ (i := 1) (N := some 12) (v := ?_) (a' := ?_) (tf 14 3) rfl rfl (by kernel_rfl) (fun _ _ _ h => h) (Or.inl ⟨by rfl, ?_⟩) ?_ ?_; rotate_left; (· intro w'; go_simp; (with_reducible rfl)); rotate_left; (· simp only [pn_]; rfl); refine pure_ (i := 2) (N := some 13) (v := ?_) (a' := ?_) (tf 14 7) rfl rfl (by kernel_rfl) (fun _ _ _ h => h) (Or.inl ⟨by rfl, ?_⟩) ?_ ?_; rotate_left; (· intro w'; go_simp; (with_reducible rfl)); rotate_left; (· simp only [pn_]; rfl); refine pure_ (i := 3) (N := some 14) (v := ?_) (a' := ?_) (tf 14 15) rfl rfl (by kernel_rfl) (fun _ _ _ h => h) (Or.inl ⟨by rfl, ?_⟩) ?_ ?_; rotate_left; (· intro w'; go_simp; (with_reducible rfl)); rotate_left; (· simp only [pn_]; rfl); refine pure_ (i := 5) (N := some 16) (v := ?_) (a' := ?_) (tf 14 47) rfl rfl (by kernel_rfl) (fun _ _ _ h => h) (Or.inl ⟨by rfl, ?_⟩) ?_ ?_; rotate_left; (· intro w'; go_simp; (with_reducible rfl)); rotate_left; (· simp only [pn_]; rfl); refine pure_ (i := 6) (N := some 17) (v := ?_) (a' := ?_) (tf 14 111) rfl rfl (by kernel_rfl) (fun _ _ _ h => h) (Or.inl ⟨by rfl, ?_⟩) ?_ ?_; rotate_left; (· intro w'; go_simp; (with_reducible rfl)); rotate_left; (· simp only [pn_]; rfl); refine pure_ (i := 7) (N := some 18) (v := ?_) (a' := ?_) (tf 14 239) rfl rfl (by kernel_rfl) (fun _ _ _ h => h) (Or.inl ⟨by rfl, ?_⟩) ?_ ?_; rotate_left; (· intro w'; go_simp; (with_reducible rfl)); rotate_left; (· simp only [pn_]; rfl); refine pure_ (i := 8) (N := some 19) (v := ?_) (a' := ?_) (tf 14 495) rfl rfl (by kernel_rfl) (fun _ _ _ h => h) (Or.inl ⟨by rfl, ?_⟩) ?_ ?_; rotate_left; (· intro w'; go_simp; (with_reducible rfl)); rotate_left; (· simp only [pn_]; rfl); refine pure_ (i := 11) (N := some 22) (v := ?_) (a' := ?_) (tf 14 2543) rfl rfl (by kernel_rfl) (fun _ _ _ h => h) (Or.inl ⟨by rfl, ?_⟩) ?_ ?_; rotate_left; (· intro w'; go_simp; (with_reducible rfl)); rotate_left; (· simp only [pn_]; rfl); refine take_ (i := 4) (N := some 15) (v := ?_) (a' := ?_) (tf 14 2559) rfl rfl (by kernel_rfl) (fun _ _ _ h => h) (Or.inl ⟨by rfl, ?_⟩) hHeld ?_ ?_; rotate_left; (· rintro w' ⟨s0, s1⟩; go_simp; (with_reducible rfl)); rotate_left; (· simp only [pn_]; rfl); refine take_ (i := 9) (N := some 20) (v := ?_) (a' := ?_) (tf 14 3071) rfl rfl (by kernel_rfl) (fun _ _ _ h => h) (Or.inl ⟨by rfl, ?_⟩) hHeld ?_ ?_; rotate_left; (· rintro w' ⟨s0, s1⟩; go_simp; (with_reducible rfl)); rotate_left; (· simp only [pn_]; rfl); refine pure_ (i := 10) (N := some 21) (v := ?_) (a' := ?_) (tf 14 4095) rfl rfl (by kernel_rfl) (fun _ _ _ h => h) (Or.inl ⟨by rfl, ?_⟩) ?_ ?_; rotate_left; (· intro w'; go_simp; (with_reducible rfl)); rotate_left; (· simp only [pn_]; rfl); refine last_ (i := 12) (N := some 23) (tf 14 8191) rfl rfl (by kernel_rfl) (by decide) (fun K hK => ?_); refine goes_ Tryz.func186 (by kernel_rfl) rfl #[.slice (some ⟨C, 0, none⟩) 1 1, .slice (some ⟨X, 0, none⟩) 1 c2] (by rfl) rfl rfl (by simp only [List.map_toArray, List.map_cons, List.map_nil]; rfl) ?_; (with_reducible refine (H.out).mono ?_); rintro e w1 ⟨rfl, b1⟩; refine ⟨_, rfl, ?_⟩; refine hK.out _ _ ?_; clear hK K; refine norm_ (a' := ?_) ?_ ?_; rotate_left; (· show Act.put _ (some 23) _ = _; simp only [pn_]; rfl); refine pure_ (i := 13) (N := some 6) (v := ?_) (a' := ?_) (tf 14 16383) rfl rfl (by kernel_rfl) (fun _ _ _ h => h) (Or.inl ⟨by rfl, ?_⟩) ?_ ?_; rotate_left; (· intro w'; go_simp; (with_reducible rfl)); rotate_left; (· simp only [pn_]; rfl); refine done_ (by kernel_rfl) ?_
  have b2 : Below w.heap.size w w1 := (Below.refl w.heap.size w).drew.trans b1
  clear b1
  go_wp2
  go_ret
  exact ⟨rfl, b2⟩
theorem keyof_one {w : World} {T C X n c c2 : Nat} (hn : n < 65536) (h : TabK w T C) (hx : ValsAt w X n) (hc : 1 ≤ c2) : Calls Tryz.prog 138 #[.slice (some ⟨T, 0, none⟩) 1 c, .int .i64 0, .slice (some ⟨X, 0, none⟩) 1 c2] w fun e w' => e = .returned (.string (keyS n)) ∧ Below w.heap.size w w' := by
  have k2 := h.1.keys
  have H := hid (tkey_any (c := c2) hn hx)
  clear h hx
  go_enter Tryz.func138, Tryz.ntmps138
  go_wp2_with fail
  refine H.out.mono ?_
  rintro e w1 ⟨rfl, b1⟩
  clear H
  go_wp2
  go_ret
  exact ⟨rfl, b1⟩
end Go.Proofs.YtnidgljkbmceaaaGreatDoor
