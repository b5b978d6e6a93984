/- TopSkew's walks: a ledger is asked and written. -/
import Derived.Test.YtnidgljkbmceaaaGreatDoorPn
import Derived.Test.YtnidgljkbmceaaaGreatDoorG09
set_option linter.unusedVariables false
set_option linter.unusedSimpArgs false
namespace Go.Proofs.YtnidgljkbmceaaaGreatDoor
open Go.RowKit PrintLast Go.Maps Go.MapKept
def rowN (n : Nat) : List UInt8 := 1 :: 1 :: numBytes n 8
theorem rowN_length (n : Nat) : (rowN n).length = 10 := by unfold rowN; rw [List.length_cons, List.length_cons, numBytes_length]
set_option maxHeartbeats 1600000 in
theorem pack_one {w : World} {X n c : Nat} (hn : n < 65536) (h : ValsAt w X n) : Calls Tryz.prog 139 #[.slice (some ⟨X, 0, none⟩) 1 c] w fun e w' => ∃ A c', e = .returned (.slice A 10 c') ∧ Row w' w.heap.size A c' (rowN n) ∧ Below w.heap.size w w' := by
  have al := below_alloc (Below.refl _ w) (.cells #[.int .u8 1] 5)
  have L := hid (lit1 w 1)
  obtain ⟨c0, c1, c2⟩ := (h.below al).get
  have HO := hid (vencode_any (w := (w.alloc (.cells #[.int .u8 1] 5)).alloc (.cells #[.int .u8 1, .int .i64 (n : Int), .string ⟨#[]⟩] 32)) hn)
  unfold valV at HO
  have AL := hid (below_alloc al (.cells #[.int .u8 1, .int .i64 (n : Int), .string ⟨#[]⟩] 32))
  have L2 := hid (L.out.below (below_alloc (Below.refl _ (w.alloc (.cells #[.int .u8 1] 5))) (.cells #[.int .u8 1, .int .i64 (n : Int), .string ⟨#[]⟩] 32)))
  clear h al L
  go_enter Tryz.func139, Tryz.ntmps139
  go_wp2
  refine wp_loop_rounds 2 ?_
  rw [rounds_succ]
  go_wp2_with fail
  refine HO.out.mono ?_
  rintro e w1 ⟨A, c', rfl, r1, b1⟩
  have B1 := hid (below_then AL.out b1)
  have hl : (1 :: numBytes n 8).length = 9 := by rw [List.length_cons, numBytes_length]
  have R1 := hid r1.bsa
  have L1 := hid (L2.out.below b1)
  have SZ := hid B1.out.size
  have RE := hid (show (1 : UInt8) :: 1 :: numBytes n 8 = rowN n from rfl)
  obtain ⟨q, hq⟩ : ∃ q, q = 1 :: numBytes n 8 := ⟨_, rfl⟩
  rw [← hq] at R1 RE hl
  have HL := hid hl
  clear HO AL L2 b1 r1 hq hl c0 c1 c2
  go_wp2_with (refine wpList_appO rfl (.tmp 16) (.tmp 18) rfl w.heap.size SZ.out (some ⟨w.heap.size, 0, none⟩) 1 [1] rfl L1.out A c' q (by rw [HL.out]; rfl) R1.out (by rw [HL.out]; decide) 10 (by rw [HL.out]; rfl) ?_)
  intro R2 c2 w2 r2 b2
  try rw [List.singleton_append] at r2
  rw [RE.out] at r2
  have R2' := hid r2
  have B2 := hid (B1.out.trans b2)
  clear R1 B1 SZ b2 r2 L1 RE
  go_wp2
  rw [rounds_succ]
  go_wp2
  go_ret
  exact ⟨R2, c2, rfl, R2'.out, B2.out⟩
def ledC (T c S O : Nat) (next : Int) (R n rc : Nat) : Array Value := #[.slice (some ⟨T, 0, none⟩) 1 c, .pointer (some ⟨S, 0, none⟩), .map (some O), .int .i64 next, .slice (some ⟨R, 0, none⟩) n rc]
section
variable {w : World} {L Tb tc S O R n rc : Nat} {next now : Int} {es : Array MapEntry} {cl i T : Nat} {id : Int}
theorem of_hit (hL : w.heap[L]? = some (.cells (ledC Tb tc S O next R n rc) 95 (0, 0))) (hO : w.heap[O]? = some (.map es cl)) (hf : Instr.findNow (.int .i64) (.int .i64 id) es.toList 0 = some (some (i, .pointer (some ⟨T, 0, none⟩)))) :
    Calls Tryz.prog 133 #[.pointer (some ⟨L, 0, none⟩), .int .i64 id] w fun e w' => e = .returned (.tuple #[.pointer (some ⟨T, 0, none⟩), .int .i64 0]) ∧ w = w' := by
  have lk := (look_hit (k := .int .i64 id) Tryz.underlying92 Tryz.underlying3 rfl hO hf).1
  have c2 := cell_at hL (i := 2) (v := .map (some O)) rfl
  clear hL hO hf
  go_enter Tryz.func133, Tryz.ntmps133
  go_wp2
  go_ret2
  exact ⟨rfl, rfl⟩
theorem open_hit (hL : w.heap[L]? = some (.cells (ledC Tb tc S O next R n rc) 95 (0, 0))) (hO : w.heap[O]? = some (.map es cl)) (hf : Instr.findNow (.int .i64) (.int .i64 id) es.toList 0 = some (some (i, .pointer (some ⟨T, 0, none⟩)))) :
    Calls Tryz.prog 142 #[.pointer (some ⟨L, 0, none⟩), .int .i64 id] w fun e w' => e = .returned (.bool true) ∧ w = w' := by
  have H := hid (of_hit hL hO hf)
  clear hL hO hf
  go_enter Tryz.func142, Tryz.ntmps142
  go_wp2_with fail
  refine H.out.mono ?_
  rintro e w1 ⟨rfl, rfl⟩
  clear H
  go_wp2
  go_ret
  exact ⟨rfl, rfl⟩
theorem snow_any (hS : w.heap[S]? = some (.cells (stoC n now) 137 (0, 0))) : Calls Tryz.prog 50 #[.pointer (some ⟨S, 0, none⟩)] w fun e w' => e = .returned (.int .i64 now) ∧ w = w' := by
  have c1 := cell_at hS (i := 1) (v := .int .i64 now) rfl
  clear hS
  go_enter Tryz.func50, Tryz.ntmps50
  go_wp2
  go_ret
  exact ⟨rfl, rfl⟩
theorem lnow_any {SM : Nat} (hL : w.heap[L]? = some (.cells (ledC Tb tc S O next R n rc) 95 (0, 0))) (hS : w.heap[S]? = some (.cells (stoC SM now) 137 (0, 0))) : Calls Tryz.prog 23 #[.pointer (some ⟨L, 0, none⟩)] w fun e w' => e = .returned (.int .i64 now) ∧ w = w' := by
  have c1 := cell_at hL (i := 1) (v := .pointer (some ⟨S, 0, none⟩)) rfl
  have H := hid (snow_any hS)
  clear hL hS
  go_enter Tryz.func23, Tryz.ntmps23
  go_wp2_with fail
  refine H.out.mono ?_
  rintro e w1 ⟨rfl, rfl⟩
  clear H
  go_wp2
  go_ret
  exact ⟨rfl, rfl⟩
theorem wrote_one {M : Nat} {k : ByteArray} {r : Value} {row : List UInt8} (hL : w.heap[L]? = some (.cells (ledC Tb tc S O next R n rc) 95 (0, 0))) (hO : w.heap[O]? = some (.map es cl)) (hf : Instr.findNow (.int .i64) (.int .i64 id) es.toList 0 = some (some (i, .pointer (some ⟨T, 0, none⟩))))
    (hT : w.heap[T]? = some (.cells (txC M) 306 (0, 0))) (hM : w.heap[M]? = some (.map #[entS k (.agg #[.string k, r, .bool false]) 0] 1)) (hr : OwnB w r row) (hk : k.size ≤ 1000) (hl : row.length ≤ 1000000) :
    Calls Tryz.prog 79 #[.pointer (some ⟨L, 0, none⟩), .int .i64 id] w fun e w' => e = .returned (.int .i64 1) ∧ Below w.heap.size w w' := by
  have H := hid (of_hit hL hO hf)
  have G := hid (writes_one hT hM hr hk hl)
  clear hL hO hf hT hM hr
  go_enter Tryz.func79, Tryz.ntmps79
  go_wp2_with fail
  refine H.out.mono ?_
  rintro e w1 ⟨rfl, rfl⟩
  clear H
  go_wp2_with fail
  refine G.out.mono ?_
  rintro e w1 ⟨g, c, r', rfl, -, -, -, -, b1⟩
  clear G
  go_wp2
  go_ret
  exact ⟨rfl, b1⟩
set_option maxHeartbeats 800000 in
theorem keyed_one {C X m c2 : Nat} (hn : m < 65536) (hL : w.heap[L]? = some (.cells (ledC Tb tc S O next R n rc) 95 (0, 0))) (hO : w.heap[O]? = some (.map es cl)) (hf : Instr.findNow (.int .i64) (.int .i64 id) es.toList 0 = some (some (i, .pointer (some ⟨T, 0, none⟩)))) (hT : TabK w Tb C) (hX : ValsAt w X m) :
    Calls Tryz.prog 130 #[.pointer (some ⟨L, 0, none⟩), .int .i64 id, .int .i64 0, .slice (some ⟨X, 0, none⟩) 1 c2] w fun e w' => e = .returned (.tuple #[.pointer (some ⟨T, 0, none⟩), .string (keyS m), .int .i64 0]) ∧ Below w.heap.size w w' := by
  have H := hid (of_hit hL hO hf)
  have c0 := cell_at hL (i := 0) (v := .slice (some ⟨Tb, 0, none⟩) 1 tc) rfl
  have G := hid (checkK_one (c := tc) (c2 := c2) hT hX)
  have HX := hid hX
  clear hL hO hf hT hX
  go_enter Tryz.func130, Tryz.ntmps130
  go_wp2_with fail
  refine H.out.mono ?_
  rintro e w1 ⟨rfl, rfl⟩
  clear H
  go_wp2_with fail
  refine G.out.mono ?_
  rintro e w1 ⟨rfl, b1⟩
  have K := hid (tkey_any (c := c2) hn (HX.out.below b1))
  have B1 := hid b1
  clear G b1 c0
  go_wp2_with fail
  refine K.out.mono ?_
  rintro e w2 ⟨rfl, b2⟩
  have B2 := hid (below_then B1.out b2)
  clear K b2
  go_wp2
  go_ret3
  exact ⟨rfl, B2.out⟩
set_option maxHeartbeats 800000 in
theorem lget_miss {C X m c2 M SM q : Nat} {ss : Array MapEntry} (hn : m < 65536) (hL : w.heap[L]? = some (.cells (ledC Tb tc S O next R n rc) 95 (0, 0))) (hO : w.heap[O]? = some (.map es cl)) (hf : Instr.findNow (.int .i64) (.int .i64 id) es.toList 0 = some (some (i, .pointer (some ⟨T, 0, none⟩)))) (hT : TabK w Tb C) (hX : ValsAt w X m)
    (hTx : w.heap[T]? = some (.cells (txC M) 306 (0, 0))) (hM : w.heap[M]? = some (.map #[] 0)) (hS : w.heap[S]? = some (.cells (stoC SM now) 137 (0, 0))) (hSM : w.heap[SM]? = some (.map ss q)) (hs : Instr.findNow .string (.string (keyS m)) ss.toList 0 = some none) :
    Calls Tryz.prog 73 #[.pointer (some ⟨L, 0, none⟩), .int .i64 id, .int .i64 0, .slice (some ⟨X, 0, none⟩) 1 c2] w fun e w' => e = .returned (.tuple #[.slice none 0 0, .bool false, .int .i64 0]) ∧ Below w.heap.size w w' := by
  have H := hid (keyed_one (c2 := c2) hn hL hO hf hT hX)
  have HF := hid (And.intro hL (And.intro hTx (And.intro hM (And.intro hS hSM))))
  clear hL hO hf hT hX hTx hM hS hSM
  go_enter Tryz.func73, Tryz.ntmps73
  go_wp2_with fail
  refine H.out.mono ?_
  rintro e w1 ⟨rfl, b1⟩
  have c1 := below_cell b1 (cell_at HF.out.1 (i := 1) (v := .pointer (some ⟨S, 0, none⟩)) rfl)
  have G := hid (txget_miss (below_heap b1 HF.out.2.1) (below_heap b1 HF.out.2.2.1) (below_heap b1 HF.out.2.2.2.1) (below_heap b1 HF.out.2.2.2.2) hs)
  have B1 := hid b1
  clear H b1 hs
  go_wp2_with fail
  refine G.out.mono ?_
  rintro e w2 ⟨rfl, b2⟩
  have B2 := hid (below_then B1.out b2)
  clear G b2 c1
  go_wp2
  go_ret3
  exact ⟨rfl, B2.out⟩
set_option maxHeartbeats 800000 in
theorem lput_one {C X m c2 M : Nat} (hn : m < 65536) (hL : w.heap[L]? = some (.cells (ledC Tb tc S O next R n rc) 95 (0, 0))) (hO : w.heap[O]? = some (.map es cl)) (hf : Instr.findNow (.int .i64) (.int .i64 id) es.toList 0 = some (some (i, .pointer (some ⟨T, 0, none⟩)))) (hT : TabK w Tb C) (hX : ValsAt w X m) (hc : 1 ≤ c2)
    (hTx : w.heap[T]? = some (.cells (txC M) 306 (0, 0))) (hM : w.heap[M]? = some (.map #[] 0)) :
    Calls Tryz.prog 76 #[.pointer (some ⟨L, 0, none⟩), .int .i64 id, .int .i64 0, .slice (some ⟨X, 0, none⟩) 1 c2] w fun e w' => e = .returned (.int .i64 0) ∧ (∃ r, w'.heap[M]? = some (.map #[entS (keyS m) (.agg #[.string (keyS m), r, .bool false]) 0] 1) ∧ OwnB w' r (rowN m) ∧ ∀ g, r.ownBlock = some g → w.heap.size ≤ g) ∧ Keeps (fun k => k = M) w w' := by
  have H := hid (of_hit hL hO hf)
  have c0 := cell_at hL (i := 0) (v := .slice (some ⟨Tb, 0, none⟩) 1 tc) rfl
  have G := hid (checkT_one (c := tc) (c2 := c2) hT hX)
  have HX := hid (And.intro hL (And.intro hT (And.intro hX (And.intro hTx hM))))
  clear hL hO hf hT hX hTx hM
  go_enter Tryz.func76, Tryz.ntmps76
  go_wp2_with fail
  refine H.out.mono ?_
  rintro e w1 ⟨rfl, rfl⟩
  clear H
  go_wp2_with fail
  refine G.out.mono ?_
  rintro e w1 ⟨rfl, b1⟩
  have K := hid (keyof_one (c := tc) (c2 := c2) hn (HX.out.2.1.below b1) (HX.out.2.2.1.below b1) hc)
  have B1 := hid b1
  replace c0 := below_cell b1 c0
  clear G b1
  go_wp2_with fail
  refine K.out.mono ?_
  rintro e w2 ⟨rfl, b2⟩
  have B2 := hid (below_then B1.out b2)
  have P := hid (pack_one (c := c2) hn (HX.out.2.2.1.below B2.out))
  clear K b2 c0
  go_wp2_with fail
  refine P.out.mono ?_
  rintro e w3 ⟨A, c', rfl, r3, b3⟩
  have B3 := hid (below_then B2.out b3)
  have Q := hid (txput_any (k := keyS m) (below_heap B3.out HX.out.2.2.2.1) (below_heap B3.out HX.out.2.2.2.2) (rowN_length m) r3.bsa (by omega))
  clear P b3 r3
  go_wp2_with fail
  refine Q.out.mono ?_
  rintro e w4 ⟨rfl, ⟨r, m4, o4, f4⟩, k4⟩
  have FF := hid (And.intro (show ∃ r, w4.heap[M]? = some (.map #[entS (keyS m) (.agg #[.string (keyS m), r, .bool false]) 0] 1) ∧ OwnB w4 r (rowN m) ∧ ∀ g, r.ownBlock = some g → w.heap.size ≤ g from ⟨r, m4, o4, fun g e => Nat.le_trans B3.out.size (f4 g e)⟩) (show Keeps (fun k => k = M) w w4 from (Keeps.of_below (S := fun k => k = M) B3.out).then k4 (fun _ _ e => e)))
  clear m4 o4 f4 k4 Q
  go_wp2
  go_ret
  exact ⟨rfl, FF.out⟩
set_option maxRecDepth 100000 in
set_option maxHeartbeats 1600000 in
theorem lbegin_any {SM : Nat} (hL : w.heap[L]? = some (.cells (ledC Tb tc S O next R n rc) 95 (0, 0))) (hnx : 0 ≤ next ∧ next ≤ 1000) (hO : w.heap[O]? = some (.map es cl)) (hf : Instr.findNow (.int .i64) (.int .i64 (next + 1)) es.toList 0 = some none) (hS : w.heap[S]? = some (.cells (stoC SM 0) 137 (0, 0))) :
    Calls Tryz.prog 72 #[.pointer (some ⟨L, 0, none⟩)] w fun e w' => e = .returned (.int .i64 (next + 1)) ∧ w'.heap[L]? = some (.cells (ledC Tb tc S O (next + 1) R n rc) 95 (0, 0)) ∧ ∃ T M, w'.heap[O]? = some (.map (es.push ⟨.int .i64 (next + 1), .pointer (some ⟨T, 0, none⟩), cl⟩) (cl + 1)) ∧
      w'.heap[T]? = some (.cells (txC M) 306 (0, 0)) ∧ w'.heap[M]? = some (.map #[] 0) ∧ w.heap.size ≤ T ∧ w.heap.size ≤ M ∧ KB [L, O] [95] [O] [] w w' := by
  obtain ⟨nx, hnx2⟩ : ∃ nx, nx = next + 1 := ⟨_, rfl⟩
  have ew : wrap64 (next + 1) = nx := by rw [hnx2]; unfold wrap64; omega
  rw [← hnx2] at hf ⊢
  obtain ⟨w1, hw1⟩ : ∃ w1, w1 = w.setCell ⟨L, 3, none⟩ (.int .i64 nx) := ⟨_, rfl⟩
  have g1 : w1.heap[L]? = some (.cells (ledC Tb tc S O nx R n rc) 95 (0, 0)) := by rw [hw1, heap_set hL]; rfl
  have k1 : KB [L, O] [95] [O] [] w w1 := by rw [hw1]; exact (KB.refl _ _ _ _ w).set hL (by decide) (.head _) _
  have k1' : KT [95] [] [] w w1 := by rw [hw1]; exact (KT.refl _ _ _ w).set hL (by decide) _
  have hO1 := k1'.map hO (by simp)
  have hS1 := k1'.cells hS (by decide)
  have c3 := cell_at hL (i := 3) (v := .int .i64 next) rfl
  have f3 := free_at hL 3
  have d1 := cell_at g1 (i := 1) (v := .pointer (some ⟨S, 0, none⟩)) rfl
  have d2 := cell_at g1 (i := 2) (v := .map (some O)) rfl
  have d3 := cell_at g1 (i := 3) (v := .int .i64 nx) rfl
  have HN := hid (snow_any (w := w1.drew) (S := S) (n := SM) (now := 0) hS1)
  have HT := hid (txnew_any (w := w1.drew))
  have W1 := hid hw1
  have FX := hid (And.intro g1 (And.intro hO1 (And.intro hf (And.intro k1 hO))))
  clear hL hO hS hw1 g1 k1 k1' hO1 hS1 hf hnx hnx2
  go_enter Tryz.func72, Tryz.ntmps72
  go_upto_region 4 with fail
  rw [← W1.out]
  refine start_ (n := 15) (S := fun w' => w'.cell? ⟨L, 1, none⟩ = some (.pointer (some ⟨S, 0, none⟩)) ∧ w'.cell? ⟨L, 2, none⟩ = some (.map (some O)) ∧ w'.cell? ⟨L, 3, none⟩ = some (.int .i64 nx)) (ds := [14]) (tf 15 0) (by kernel_rfl) rfl rfl ⟨d1, d2, d3⟩ (fun hHeld => ?_); refine pure_ (i := 0) (N := some 12) (v := ?_) (a' := ?_) (tf 15 1) rfl rfl (by kernel_rfl) (fun _ _ _ h => h) (Or.inl ⟨by rfl, ?_⟩) ?_ ?_; rotate_left; (· intro w'; go_simp; (with_reducible rfl)); rotate_left; (· simp only [pn_]; rfl); refine pure_ (i := 1) (N := some 13) (v := ?_) (a' := ?_) (tf 15 3) rfl rfl (by kernel_rfl) (fun _ _ _ h => h) (Or.inl ⟨by rfl, ?_⟩) ?_ ?_; rotate_left; (· intro w'; go_simp; (with_reducible rfl)); rotate_left; (· simp only [pn_]; rfl); refine pure_ (i := 2) (N := some 14) (v := ?_) (a' := ?_) (tf 15 7) rfl rfl (by kernel_rfl) (fun _ _ _ h => h) (Or.inl ⟨by rfl, ?_⟩) ?_ ?_; rotate_left; (· intro w'; go_simp; (with_reducible rfl)); rotate_left; (· simp only [pn_]; rfl); refine pure_ (i := 4) (N := some 16) (v := ?_) (a' := ?_) (tf 15 23) rfl rfl (by kernel_rfl) (fun _ _ _ h => h) (Or.inl ⟨by rfl, ?_⟩) ?_ ?_; rotate_left; (· intro w'; go_simp; (with_reducible rfl)); rotate_left; (· simp only [pn_]; rfl); refine pure_ (i := 5) (N := some 17) (v := ?_) (a' := ?_) (tf 15 55) rfl rfl (by kernel_rfl) (fun _ _ _ h => h) (Or.inl ⟨by rfl, ?_⟩) ?_ ?_; rotate_left; (· intro w'; go_simp; (with_reducible rfl)); rotate_left; (· simp only [pn_]; rfl); refine pure_ (i := 6) (N := some 18) (v := ?_) (a' := ?_) (tf 15 119) rfl rfl (by kernel_rfl) (fun _ _ _ h => h) (Or.inl ⟨by rfl, ?_⟩) ?_ ?_; rotate_left; (· intro w'; go_simp; (with_reducible rfl)); rotate_left; (· simp only [pn_]; rfl); refine pure_ (i := 8) (N := some 20) (v := ?_) (a' := ?_) (tf 15 375) rfl rfl (by kernel_rfl) (fun _ _ _ h => h) (Or.inl ⟨by rfl, ?_⟩) ?_ ?_; rotate_left; (· intro w'; go_simp; (with_reducible rfl)); rotate_left; (· simp only [pn_]; rfl); refine pure_ (i := 9) (N := some 21) (v := ?_) (a' := ?_) (tf 15 887) rfl rfl (by kernel_rfl) (fun _ _ _ h => h) (Or.inl ⟨by rfl, ?_⟩) ?_ ?_; rotate_left; (· intro w'; go_simp; (with_reducible rfl)); rotate_left; (· simp only [pn_]; rfl); refine pure_ (i := 10) (N := some 22) (v := ?_) (a' := ?_) (tf 15 1911) rfl rfl (by kernel_rfl) (fun _ _ _ h => h) (Or.inl ⟨by rfl, ?_⟩) ?_ ?_; rotate_left; (· intro w'; go_simp; (with_reducible rfl)); rotate_left; (· simp only [pn_]; rfl); refine take_ (i := 3) (N := some 15) (v := ?_) (a' := ?_) (tf 15 1919) rfl rfl (by kernel_rfl) (fun _ _ _ h => h) (Or.inl ⟨by rfl, ?_⟩) hHeld ?_ ?_; rotate_left; (· rintro w' ⟨s0, s1, s2⟩; go_simp; (with_reducible rfl)); rotate_left; (· simp only [pn_]; rfl); refine take_ (i := 7) (N := some 19) (v := ?_) (a' := ?_) (tf 15 2047) rfl rfl (by kernel_rfl) (fun _ _ _ h => h) (Or.inl ⟨by rfl, ?_⟩) hHeld ?_ ?_; rotate_left; (· rintro w' ⟨s0, s1, s2⟩; go_simp; (with_reducible rfl)); rotate_left; (· simp only [pn_]; rfl); refine take_ (i := 11) (N := some 23) (v := ?_) (a' := ?_) (tf 15 4095) rfl rfl (by kernel_rfl) (fun _ _ _ h => h) (Or.inl ⟨by rfl, ?_⟩) hHeld ?_ ?_; rotate_left; (· rintro w' ⟨s0, s1, s2⟩; go_simp; (with_reducible rfl)); rotate_left; (· simp only [pn_]; rfl); refine one_ (i := 12) (N := some 24) (tf 15 8191) rfl rfl (by kernel_rfl) (by decide) (fun K hK => ?_); refine goes_ Tryz.func50 (by kernel_rfl) rfl #[.pointer (some ⟨S, 0, none⟩)] (by rfl) rfl rfl (by simp only [List.map_toArray, List.map_cons, List.map_nil]; rfl) ?_; (with_reducible refine (HN.out).mono ?_); rintro e w2 ⟨rfl, rfl⟩; refine ⟨_, rfl, ?_⟩; refine hK.out _ _ ⟨hHeld.1, hHeld.2.1, hHeld.2.2⟩ (fun hHeld => ?_); clear hK K; refine norm_ (a' := ?_) ?_ ?_; rotate_left; (· show Act.put _ (some 24) _ = _; simp only [pn_]; rfl); refine one_ (i := 13) (N := some 25) (tf 15 16383) rfl rfl (by kernel_rfl) (by decide) (fun K hK => ?_); refine goes_ Tryz.func129 (by kernel_rfl) rfl #[.int .i64 0] (by rfl) rfl rfl (by simp only [List.map_toArray, List.map_cons, List.map_nil]; rfl) ?_; (with_reducible refine (HT.out).mono ?_); rintro e w2 ⟨T, M, rfl, t1, t2, t3, t4, b2⟩; refine ⟨_, rfl, ?_⟩; refine hK.out _ _ ⟨below_cell b2 hHeld.1, below_cell b2 hHeld.2.1, below_cell b2 hHeld.2.2⟩ (fun hHeld => ?_); clear hK K; refine norm_ (a' := ?_) ?_ ?_; rotate_left; (· show Act.put _ (some 25) _ = _; simp only [pn_]; rfl); refine last_ (i := 14) (N := none) (tf 15 32767) rfl rfl (by kernel_rfl) (by decide) (fun K hK => ?_); refine step_put rfl (.tmp 15) (.tmp 19) (.tmp 25) 92 rfl rfl O _ _ (.int .i64 nx) (.pointer (some ⟨T, 0, none⟩)) rfl rfl rfl (run_put (k := .int .i64 nx) Tryz.underlying92 Tryz.underlying3 rfl (below_heap b2 (show w1.drew.heap[O]? = _ from FX.out.2.1)) FX.out.2.2.1 _) ?_; intro w3 p1 p2; refine hK.out _ _ ?_; clear hK K; refine done_ (by kernel_rfl) ?_
  have hO2 : w2.heap[O]? = some (.map es cl) := below_heap b2 (show w1.drew.heap[O]? = _ from FX.out.2.1)
  have g2 : w2.heap[L]? = some (.cells (ledC Tb tc S O nx R n rc) 95 (0, 0)) := below_heap b2 (show w1.drew.heap[L]? = _ from FX.out.1)
  have kt : KT [] [O] [] w2 w3 := (KT.refl [] [O] [] w2).of_map p2 ⟨_, _, hO2⟩ (.head _)
  have kb : KB [L, O] [] [O] [] w2 w3 := (KB.refl [L, O] [] [O] [] w2).of_map p2 ⟨_, _, hO2⟩ (.head _) (by simp)
  have hOl : O < w1.heap.size := lt_of_block FX.out.2.1
  have hsz : w.heap.size ≤ w1.heap.size := FX.out.2.2.2.1.1.size
  have t3' : w1.heap.size ≤ T := t3
  have t4' : w1.heap.size ≤ M := t4
  have g3 := kt.cells g2 (by decide)
  have FF := hid (show w3.heap[L]? = some (.cells (ledC Tb tc S O nx R n rc) 95 (0, 0)) ∧ ∃ T M, w3.heap[O]? = some (.map (es.push ⟨.int .i64 nx, .pointer (some ⟨T, 0, none⟩), cl⟩) (cl + 1)) ∧
      w3.heap[T]? = some (.cells (txC M) 306 (0, 0)) ∧ w3.heap[M]? = some (.map #[] 0) ∧ w.heap.size ≤ T ∧ w.heap.size ≤ M ∧ KB [L, O] [95] [O] [] w w3 from
    ⟨g3, T, M, p1, kt.cells t1 (by decide), kt.map t2 (by simp; omega), by omega, by omega, ((FX.out.2.2.2.1.drew).below b2).then kb (fun _ h _ => h) (fun _ h => by cases h) (fun _ h _ => h) (fun _ h _ => h)⟩)
  have e3 := cell_at g3 (i := 3) (v := .int .i64 nx) rfl
  clear p1 p2 hO2 g2 kt kb g3 t1 t2 t3 t4 b2
  go_wp2
  go_ret
  exact ⟨rfl, FF.out⟩
end
theorem isnan_no {w : World} {s : ByteArray} : Calls Tryz.prog 222 #[.string s] w fun e w' => e = .returned (.bool false) ∧ w = w' := by
  go_enter Tryz.func222, Tryz.ntmps222
  go_wp2
  go_ret
  exact ⟨rfl, rfl⟩
section
variable {P : Program} {ops : Array Oper} {Q : Exit → Act → World → Prop}
theorem goesF_ {oi : Oper} {N : Option Tmp} {a : Act} {w : World} {K : Act → World → Prop} {f : FuncId} {fn : Func} {aa : Array Operand} {ts : Array TypeId} (hf : P.funcs[f]? = some fn) (hname : (fn.name == "runtime.NumGoroutine") = false) (hb : fn.body.isSome = true) (args : Array Value)
    (hw : Region.wanted oi (yielded ops a.tmps) = true) (hN : oi.dst = N) (x : Operand) (hop : oi.op = .call { callee := .value x, args := aa, argTypes := ts }) (hx : a.eval x = .func (.func f) #[] #[]) (hargs : aa.map a.eval = args)
    (h : Calls P f args w fun e w' => ∃ v, e = .returned v ∧ K (a.put N v) w') : if Region.wanted oi (yielded ops a.tmps) = true then Oper.wp P oi a w K Q else K (a.put N undef) w := by
  refine call_ f args hw hN ?_ h
  have he := enters_ hf hname hb args w
  unfold execOp
  simp [hop, resolve, Deferred.ofValue, invoke, hx, hargs, he]
end
structure Behind (s t : ByteArray) : Prop where
  less : Op.bytesLess s.toList t.toList = false
  ne : (s.toList == t.toList) = false
theorem compare_gt {w : World} {s t : ByteArray} (h : Behind s t) : Calls Tryz.prog 184 #[.string s, .string t] w fun e w' => e = .returned (.int .i64 1) ∧ w = w' := by
  obtain ⟨h1, h2⟩ := h
  go_enter Tryz.func184, Tryz.ntmps184
  go_wp2_with fail
  refine isnan_no.mono ?_
  rintro e w1 ⟨rfl, rfl⟩
  go_wp2_with fail
  refine isnan_no.mono ?_
  rintro e w1 ⟨rfl, rfl⟩
  go_wp2
  go_ret
  exact ⟨rfl, rfl⟩
theorem less_any {w : World} {s t : ByteArray} {A B : Option Addr} {n m c d : Nat} (h : Behind s t) : Calls Tryz.prog 202 #[.agg #[.string s, .slice A n c, .bool false], .agg #[.string t, .slice B m d, .bool false]] w fun e w' => e = .returned (.int .i64 1) ∧ Below w.heap.size w w' := by
  go_enter Tryz.func202, Tryz.ntmps202
  go_wp2_with fail
  refine (compare_gt h).mono ?_
  rintro e w1 ⟨rfl, rfl⟩
  go_wp2
  go_ret
  exact ⟨rfl, by go_grown⟩
set_option maxHeartbeats 800000 in
theorem isort_one {w : World} {g c : Nat} {v : Value} : Calls Tryz.prog 252 #[.slice (some ⟨g, 0, none⟩) 1 c, .int .i64 0, .int .i64 1, v] w fun e w' => e = .returned (.tuple #[]) ∧ w = w' := by
  go_enter Tryz.func252, Tryz.ntmps252
  go_wp2
  refine wp_loop_rounds 1 ?_
  rw [rounds_succ]
  go_wp2
  go_returns
  exact ⟨rfl, rfl⟩
set_option maxRecDepth 100000 in
set_option maxHeartbeats 1600000 in
theorem isort_two {w : World} {g c n m c1 c2 : Nat} {s t : ByteArray} {A B : Option Addr} (h : Behind t s) (hR : w.ownsRow 0 209 3 (.slice (some ⟨g, 0, none⟩) 2 c) 2 (wcells [(s, .slice A n c1), (t, .slice B m c2)])) :
    Calls Tryz.prog 252 #[.slice (some ⟨g, 0, none⟩) 2 c, .int .i64 0, .int .i64 2, .func (.func 202) #[] #[]] w fun e w' => e = .returned (.tuple #[]) ∧ Below w.heap.size w w' := by
  have r0 := row_news hR 0 _ rfl
  have r1 := row_news hR 1 _ rfl
  have r2 := row_news hR 2 _ rfl
  have r3 := row_news hR 3 _ rfl
  have r4 := row_news hR 4 _ rfl
  have r5 := row_news hR 5 _ rfl
  clear hR
  have H := hid (less_any (w := w.drew) (A := B) (B := A) (n := m) (m := n) (c := c2) (d := c1) h)
  go_enter Tryz.func252, Tryz.ntmps252
  go_wp2
  refine wp_loop_rounds 2 ?_
  rw [rounds_succ]
  go_wp2
  refine wp_loop_rounds 2 ?_
  rw [rounds_succ]
  go_wp2
  have w0 : wrap64 0 = 0 := by unfold wrap64; omega
  refine start_ (n := 17) (S := fun w' => w'.cell? ⟨g, 0, none⟩ = some (.string s) ∧ w'.cell? ⟨g, 1, none⟩ = some (.slice A n c1) ∧ w'.cell? ⟨g, 2, none⟩ = some (.bool false) ∧ w'.cell? ⟨g, 3, none⟩ = some (.string t) ∧ w'.cell? ⟨g, 4, none⟩ = some (.slice B m c2) ∧ w'.cell? ⟨g, 5, none⟩ = some (.bool false)) (ds := [14]) (tf 17 0) (by kernel_rfl) rfl rfl ⟨r0, r1, r2, r3, r4, r5⟩ (fun hHeld => ?_); refine pure_ (i := 0) (N := some 18) (v := ?_) (a' := ?_) (tf 17 1) rfl rfl (by kernel_rfl) (fun _ _ _ h => h) (Or.inl ⟨by rfl, ?_⟩) ?_ ?_; rotate_left; (· intro w'; go_simp; (with_reducible rfl)); rotate_left; (· simp only [pn_, w0]; rfl); refine pure_ (i := 1) (N := some 19) (v := ?_) (a' := ?_) (tf 17 3) rfl rfl (by kernel_rfl) (fun _ _ _ h => h) (Or.inl ⟨by rfl, ?_⟩) ?_ ?_; rotate_left; (· intro w'; go_simp; (with_reducible rfl)); rotate_left; (· simp only [pn_, w0]; rfl); refine pure_ (i := 2) (N := some 20) (v := ?_) (a' := ?_) (tf 17 7) rfl rfl (by kernel_rfl) (fun _ _ _ h => h) (Or.inl ⟨by rfl, ?_⟩) ?_ ?_; rotate_left; (· intro w'; go_simp; (with_reducible rfl)); rotate_left; (· simp only [pn_, w0]; rfl); refine pure_ (i := 3) (N := some 21) (v := ?_) (a' := ?_) (tf 17 15) rfl rfl (by kernel_rfl) (fun _ _ _ h => h) (Or.inl ⟨by rfl, ?_⟩) ?_ ?_; rotate_left; (· intro w'; go_simp; (with_reducible rfl)); rotate_left; (· simp only [pn_, w0]; rfl); refine pure_ (i := 4) (N := some 22) (v := ?_) (a' := ?_) (tf 17 31) rfl rfl (by kernel_rfl) (fun _ _ _ h => h) (Or.inl ⟨by rfl, ?_⟩) ?_ ?_; rotate_left; (· intro w'; go_simp; (with_reducible rfl)); rotate_left; (· simp only [pn_, w0]; rfl); refine pure_ (i := 5) (N := some 23) (v := ?_) (a' := ?_) (tf 17 63) rfl rfl (by kernel_rfl) (fun _ _ _ h => h) (Or.inl ⟨by rfl, ?_⟩) ?_ ?_; rotate_left; (· intro w'; go_simp; (with_reducible rfl)); rotate_left; (· simp only [pn_, w0]; rfl); refine pure_ (i := 6) (N := some 24) (v := ?_) (a' := ?_) (tf 17 127) rfl rfl (by kernel_rfl) (fun _ _ _ h => h) (Or.inl ⟨by rfl, ?_⟩) ?_ ?_; rotate_left; (· intro w'; go_simp; (with_reducible rfl)); rotate_left; (· simp only [pn_, w0]; rfl); refine pure_ (i := 7) (N := some 25) (v := ?_) (a' := ?_) (tf 17 255) rfl rfl (by kernel_rfl) (fun _ _ _ h => h) (Or.inl ⟨by rfl, ?_⟩) ?_ ?_; rotate_left; (· intro w'; go_simp; (with_reducible rfl)); rotate_left; (· simp only [pn_, w0]; rfl); refine pure_ (i := 9) (N := some 27) (v := ?_) (a' := ?_) (tf 17 767) rfl rfl (by kernel_rfl) (fun _ _ _ h => h) (Or.inl ⟨by rfl, ?_⟩) ?_ ?_; rotate_left; (· intro w'; go_simp; (with_reducible rfl)); rotate_left; (· simp only [pn_, w0]; rfl); refine pure_ (i := 10) (N := some 28) (v := ?_) (a' := ?_) (tf 17 1791) rfl rfl (by kernel_rfl) (fun _ _ _ h => h) (Or.inl ⟨by rfl, ?_⟩) ?_ ?_; rotate_left; (· intro w'; go_simp; (with_reducible rfl)); rotate_left; (· simp only [pn_, w0]; rfl); refine pure_ (i := 11) (N := some 29) (v := ?_) (a' := ?_) (tf 17 3839) rfl rfl (by kernel_rfl) (fun _ _ _ h => h) (Or.inl ⟨by rfl, ?_⟩) ?_ ?_; rotate_left; (· intro w'; go_simp; (with_reducible rfl)); rotate_left; (· simp only [pn_, w0]; rfl); refine pure_ (i := 12) (N := some 30) (v := ?_) (a' := ?_) (tf 17 7935) rfl rfl (by kernel_rfl) (fun _ _ _ h => h) (Or.inl ⟨by rfl, ?_⟩) ?_ ?_; rotate_left; (· intro w'; go_simp; (with_reducible rfl)); rotate_left; (· simp only [pn_, w0]; rfl); refine take_ (i := 8) (N := some 26) (v := ?_) (a' := ?_) (tf 17 8191) rfl rfl (by kernel_rfl) (fun _ _ _ h => h) (Or.inl ⟨by rfl, ?_⟩) hHeld ?_ ?_; rotate_left; (· rintro w' ⟨s0, s1, s2, s3, s4, s5⟩; go_simp; (with_reducible rfl)); rotate_left; (· simp only [pn_, w0]; rfl); refine take_ (i := 13) (N := some 31) (v := ?_) (a' := ?_) (tf 17 16383) rfl rfl (by kernel_rfl) (fun _ _ _ h => h) (Or.inl ⟨by rfl, ?_⟩) hHeld ?_ ?_; rotate_left; (· rintro w' ⟨s0, s1, s2, s3, s4, s5⟩; go_simp; (with_reducible rfl)); rotate_left; (· simp only [pn_, w0]; rfl); refine last_ (i := 14) (N := some 32) (tf 17 32767) rfl rfl (by kernel_rfl) (by decide) (fun K hK => ?_); refine goesF_ Tryz.func202 (by kernel_rfl) rfl #[.agg #[.string t, .slice B m c2, .bool false], .agg #[.string s, .slice A n c1, .bool false]] (by rfl) rfl (.tmp 22) rfl rfl (by simp only [List.map_toArray, List.map_cons, List.map_nil]; rfl) ?_; (with_reducible refine (H.out).mono ?_); rintro e w1 ⟨rfl, b1⟩; refine ⟨_, rfl, ?_⟩; refine hK.out _ _ ?_; clear hK K; refine norm_ (a' := ?_) ?_ ?_; rotate_left; (· show Act.put _ (some 32) _ = _; simp only [pn_, w0]; rfl); refine pure_ (i := 15) (N := some 33) (v := ?_) (a' := ?_) (tf 17 65535) rfl rfl (by kernel_rfl) (fun _ _ _ h => h) (Or.inl ⟨by rfl, ?_⟩) ?_ ?_; rotate_left; (· intro w'; go_simp; (with_reducible rfl)); rotate_left; (· simp only [pn_, w0]; rfl); refine pure_ (i := 16) (N := some 34) (v := ?_) (a' := ?_) (tf 17 131071) rfl rfl (by kernel_rfl) (fun _ _ _ h => h) (Or.inl ⟨by rfl, ?_⟩) ?_ ?_; rotate_left; (· intro w'; go_simp; (with_reducible rfl)); rotate_left; (· simp only [pn_, w0]; rfl); refine done_ (by kernel_rfl) ?_
  have B1 := hid (show Below w.heap.size w w1 from (Below.refl w.heap.size w).drew.trans b1)
  clear b1 H w0 r0 r1 r2 r3 r4 r5
  go_wp2
  rw [rounds_succ]
  go_wp2
  go_returns
  exact ⟨rfl, B1.out⟩
theorem blen_one {w : World} : Calls Tryz.prog 221 #[.int .u64 1] w fun e w' => (∃ v, e = .returned (.int .i64 v)) ∧ w = w' := by
  go_enter Tryz.func221, Tryz.ntmps221
  go_wp2_with go_in
  go_ret
  exact ⟨⟨_, rfl⟩, rfl⟩
theorem blen_two {w : World} : Calls Tryz.prog 221 #[.int .u64 2] w fun e w' => (∃ v, e = .returned (.int .i64 v)) ∧ w = w' := by
  go_enter Tryz.func221, Tryz.ntmps221
  go_wp2_with go_in
  go_ret
  exact ⟨⟨_, rfl⟩, rfl⟩
theorem pdq_one {w : World} {g c : Nat} {v : Value} {l : Int} : Calls Tryz.prog 231 #[.slice (some ⟨g, 0, none⟩) 1 c, .int .i64 0, .int .i64 1, .int .i64 l, v] w fun e w' => e = .returned (.tuple #[]) ∧ w = w' := by
  have H := hid (isort_one (w := w) (g := g) (c := c) (v := v))
  go_enter Tryz.func231, Tryz.ntmps231
  go_wp2
  refine wp_loop_rounds 1 ?_
  rw [rounds_succ]
  go_wp2_with fail
  refine H.out.mono ?_
  rintro e w1 ⟨rfl, b1⟩
  go_wp2
  go_returns
  exact ⟨rfl, b1⟩
theorem sortf_one {w : World} {g c : Nat} {v : Value} : Calls Tryz.prog 201 #[.slice (some ⟨g, 0, none⟩) 1 c, v] w fun e w' => e = .returned (.tuple #[]) ∧ w = w' := by
  have H := hid (fun l : Int => pdq_one (l := l) (w := w) (g := g) (c := c) (v := v))
  go_enter Tryz.func201, Tryz.ntmps201
  go_wp2_with fail
  refine blen_one.mono ?_
  rintro e w1 ⟨⟨l, rfl⟩, rfl⟩
  go_wp2_with fail
  refine (H.out l).mono ?_
  rintro e w1 ⟨rfl, b1⟩
  clear H
  go_wp2
  go_returns
  exact ⟨rfl, b1⟩
theorem pdq_two {w : World} {g c n m c1 c2 : Nat} {s t : ByteArray} {A B : Option Addr} (h : Behind t s) (hR : w.ownsRow 0 209 3 (.slice (some ⟨g, 0, none⟩) 2 c) 2 (wcells [(s, .slice A n c1), (t, .slice B m c2)])) {l : Int} : Calls Tryz.prog 231 #[.slice (some ⟨g, 0, none⟩) 2 c, .int .i64 0, .int .i64 2, .int .i64 l, .func (.func 202) #[] #[]] w fun e w' => e = .returned (.tuple #[]) ∧ Below w.heap.size w w' := by
  have H := hid (isort_two (w := w) h hR)
  go_enter Tryz.func231, Tryz.ntmps231
  go_wp2
  refine wp_loop_rounds 1 ?_
  rw [rounds_succ]
  go_wp2_with fail
  refine H.out.mono ?_
  rintro e w1 ⟨rfl, b1⟩
  go_wp2
  go_returns
  exact ⟨rfl, b1⟩
theorem sortf_two {w : World} {g c n m c1 c2 : Nat} {s t : ByteArray} {A B : Option Addr} (h : Behind t s) (hR : w.ownsRow 0 209 3 (.slice (some ⟨g, 0, none⟩) 2 c) 2 (wcells [(s, .slice A n c1), (t, .slice B m c2)])) : Calls Tryz.prog 201 #[.slice (some ⟨g, 0, none⟩) 2 c, .func (.func 202) #[] #[]] w fun e w' => e = .returned (.tuple #[]) ∧ Below w.heap.size w w' := by
  have H := hid (fun l : Int => pdq_two (l := l) (w := w) h hR)
  go_enter Tryz.func201, Tryz.ntmps201
  go_wp2_with fail
  refine blen_two.mono ?_
  rintro e w1 ⟨⟨l, rfl⟩, rfl⟩
  go_wp2_with fail
  refine (H.out l).mono ?_
  rintro e w1 ⟨rfl, b1⟩
  clear H
  go_wp2
  go_returns
  exact ⟨rfl, b1⟩
theorem index_none {w : World} {A : Option Addr} {c : Nat} {x : Int} : Calls Tryz.prog 190 #[.slice A 0 c, .int .i64 x] w fun e w' => e = .returned (.int .i64 (-1)) ∧ w = w' := by
  go_enter Tryz.func190, Tryz.ntmps190
  go_wp2
  refine wp_loop_rounds 1 ?_
  rw [rounds_succ]
  go_wp2
  go_ret
  exact ⟨rfl, rfl⟩
theorem index_one {w : World} {I c : Nat} {x y : Int} (h : w.cell? ⟨I, 0, none⟩ = some (.int .i64 y)) (hne : x ≠ y) : Calls Tryz.prog 190 #[.slice (some ⟨I, 0, none⟩) 1 c, .int .i64 x] w fun e w' => e = .returned (.int .i64 (-1)) ∧ w = w' := by
  have hq : decide (x = y) = false := by simp [hne]
  go_enter Tryz.func190, Tryz.ntmps190
  go_wp2
  refine wp_loop_rounds 2 ?_
  rw [rounds_succ]
  go_wp2
  rw [rounds_succ]
  go_wp2
  go_ret
  exact ⟨rfl, rfl⟩
theorem contains_none {w : World} {A : Option Addr} {c : Nat} {x : Int} : Calls Tryz.prog 144 #[.slice A 0 c, .int .i64 x] w fun e w' => e = .returned (.bool false) ∧ w = w' := by
  go_enter Tryz.func144, Tryz.ntmps144
  go_wp2_with fail
  refine index_none.mono ?_
  rintro e w1 ⟨rfl, rfl⟩
  go_wp2
  go_ret
  exact ⟨rfl, rfl⟩
theorem contains_one {w : World} {I c : Nat} {x y : Int} (h : w.cell? ⟨I, 0, none⟩ = some (.int .i64 y)) (hne : x ≠ y) : Calls Tryz.prog 144 #[.slice (some ⟨I, 0, none⟩) 1 c, .int .i64 x] w fun e w' => e = .returned (.bool false) ∧ w = w' := by
  have H := hid (index_one (c := c) h hne)
  clear h hne
  go_enter Tryz.func144, Tryz.ntmps144
  go_wp2_with fail
  refine H.out.mono ?_
  rintro e w1 ⟨rfl, rfl⟩
  clear H
  go_wp2
  go_ret
  exact ⟨rfl, rfl⟩
end Go.Proofs.YtnidgljkbmceaaaGreatDoor
