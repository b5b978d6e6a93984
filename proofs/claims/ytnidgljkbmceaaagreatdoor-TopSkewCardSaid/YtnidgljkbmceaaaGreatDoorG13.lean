/- TopSkew's walks: a store is trimmed; the least number that somebody sees. -/
import Derived.Test.YtnidgljkbmceaaaGreatDoorG12
import Derived.Laws.IdiomRangeMap
import Derived.Test.YtnidgljkbmceaaaGreatDoorG03
import Derived.Laws.BitsAllLaws
import Derived.Test.YtnidgljkbmceaaaGreatDoorG07
import Derived.Test.YtnidgljkbmceaaaGreatDoorG08
import Derived.Test.YtnidgljkbmceaaaGreatDoorG00
import Derived.Deep.OwnRows
import Derived.Laws.OwnMore
set_option linter.unusedVariables false
set_option linter.unusedSimpArgs false
namespace Go.Proofs.YtnidgljkbmceaaaGreatDoor
open Go.RowKit PrintLast Go.Maps Go.MapKept
section
variable {w : World} {S SM C D : Nat} {now at_ at2 x : Int} {k k' : ByteArray}
theorem skeys_one (hS : w.heap[S]? = some (.cells (stoC SM now) 137 (0, 0))) (hM : w.heap[SM]? = some (.map #[entS k (.pointer (some ⟨C, 0, none⟩)) 0] 1)) (hk : k.size ≤ 1000) :
    Calls Tryz.prog 126 #[.pointer (some ⟨S, 0, none⟩)] w fun e w' => ∃ g c, e = .returned (.slice (some ⟨g, 0, none⟩) 1 c) ∧ w'.cell? ⟨g, 0, none⟩ = some (.string k) ∧ Below w.heap.size w w' := by
  have c0 := cell_at hS (i := 0) (v := .map (some SM)) rfl
  have K := hid (skeys_any (w := w) (some SM))
  have SO := hid (ssorted_one hM hk)
  clear hS hM
  go_enter Tryz.func126, Tryz.ntmps126
  go_wp2_with fail
  refine K.out.mono ?_
  rintro e w1 ⟨rfl, hw1⟩
  rw [hw1]
  clear hw1
  go_wp2_with fail
  refine SO.out.mono ?_
  rintro e w2 ⟨g, c, rfl, cg, b2⟩
  clear K SO
  go_wp2
  go_ret
  exact ⟨g, c, rfl, cg, b2⟩
theorem skeys_two (hS : w.heap[S]? = some (.cells (stoC SM now) 137 (0, 0))) (hM : w.heap[SM]? = some (.map #[entS k (.pointer (some ⟨C, 0, none⟩)) 0, entS k' (.pointer (some ⟨D, 0, none⟩)) 1] 2)) (hk : k.size ≤ 1000) (hk' : k'.size ≤ 1000) (hne : k ≠ k') (hle : k.data.toList ≤ k'.data.toList) :
    Calls Tryz.prog 126 #[.pointer (some ⟨S, 0, none⟩)] w fun e w' => ∃ g c, e = .returned (.slice (some ⟨g, 0, none⟩) 2 c) ∧ w'.cell? ⟨g, 0, none⟩ = some (.string k) ∧ w'.cell? ⟨g, 1, none⟩ = some (.string k') ∧ Below w.heap.size w w' := by
  have c0 := cell_at hS (i := 0) (v := .map (some SM)) rfl
  have K := hid (skeys_any (w := w) (some SM))
  have SO := hid (ssorted_two hM hk hk' hne hle)
  clear hS hM
  go_enter Tryz.func126, Tryz.ntmps126
  go_wp2_with fail
  refine K.out.mono ?_
  rintro e w1 ⟨rfl, hw1⟩
  rw [hw1]
  clear hw1
  go_wp2_with fail
  refine SO.out.mono ?_
  rintro e w2 ⟨g, c, rfl, cg, cg2, b2⟩
  clear K SO
  go_wp2
  go_ret
  exact ⟨g, c, rfl, cg, cg2, b2⟩
set_option maxHeartbeats 1600000 in
theorem strim_one (hS : w.heap[S]? = some (.cells (stoC SM now) 137 (0, 0))) (hM : w.heap[SM]? = some (.map #[entS k (.pointer (some ⟨C, 0, none⟩)) 0] 1)) (hk : k.size ≤ 1000) (hC : ChainK w C at_) :
    Calls Tryz.prog 70 #[.pointer (some ⟨S, 0, none⟩), .int .i64 x] w fun e w' => e = .returned (.int .i64 0) ∧ ChainK w' C at_ ∧ KB [C] [293] [] [] w w' := by
  have H := hid (skeys_one hS hM hk)
  have F0 := hid (And.intro hS (And.intro hM hC))
  clear hS hM hC
  go_enter Tryz.func70, Tryz.ntmps70
  go_wp2_with fail
  refine H.out.mono ?_
  rintro e w1 ⟨g, c, rfl, cg, b1⟩
  have c0 := below_cell b1 (cell_at F0.out.1 (i := 0) (v := .map (some SM)) rfl)
  have lk := (look_hit (k := .string k) Tryz.underlying135 Tryz.underlying9 trivial (below_heap b1 F0.out.2.1) (find_one k _ 0 [])).1
  have T := hid (ctrim_any (x := x) (F0.out.2.2.below b1))
  have hc1 := (F0.out.2.2.below b1)
  have B1 := hid (And.intro b1 hc1)
  clear H b1 hc1
  go_wp2
  refine wp_loop_rounds 2 ?_
  rw [rounds_succ]
  go_wp2_with fail
  refine T.out.mono ?_
  rintro e w2 ⟨rfl, k2, m2⟩
  have FF := hid (show ChainK w2 C at_ ∧ KB [C] [293] [] [] w w2 from ⟨k2, by
    obtain ⟨V, c', rv, h1, -, -⟩ := B1.out.2
    exact (KB.of_below B1.out.1).trans (KB.of_keeps m2 h1 (.head _) (.head _))⟩)
  clear T k2 m2 cg c0 lk
  go_wp2
  rw [rounds_succ]
  go_wp2
  go_ret
  exact ⟨rfl, FF.out⟩
set_option maxHeartbeats 1600000 in
theorem strim_two (hS : w.heap[S]? = some (.cells (stoC SM now) 137 (0, 0))) (hM : w.heap[SM]? = some (.map #[entS k (.pointer (some ⟨C, 0, none⟩)) 0, entS k' (.pointer (some ⟨D, 0, none⟩)) 1] 2)) (hk : k.size ≤ 1000) (hk' : k'.size ≤ 1000) (hne : k ≠ k') (hle : k.data.toList ≤ k'.data.toList) (hC : ChainK w C at_) (hD : ChainK w D at2) (hCD : C ≠ D) :
    Calls Tryz.prog 70 #[.pointer (some ⟨S, 0, none⟩), .int .i64 x] w fun e w' => e = .returned (.int .i64 0) ∧ ChainK w' C at_ ∧ ChainK w' D at2 ∧ KB [C, D] [293] [] [] w w' := by
  have H := hid (skeys_two hS hM hk hk' hne hle)
  have F0 := hid (And.intro hS (And.intro hM (And.intro hC (And.intro hD (And.intro hCD hne)))))
  clear hS hM hC hD hCD hne hle
  go_enter Tryz.func70, Tryz.ntmps70
  go_wp2_with fail
  refine H.out.mono ?_
  rintro e w1 ⟨g, c, rfl, cg, cg2, b1⟩
  have c0 := below_cell b1 (cell_at F0.out.1 (i := 0) (v := .map (some SM)) rfl)
  have lk := (look_hit (k := .string k) Tryz.underlying135 Tryz.underlying9 trivial (below_heap b1 F0.out.2.1) (find_one k _ 0 _)).1
  have T := hid (ctrim_any (x := x) (F0.out.2.2.1.below b1))
  obtain ⟨V, vc, rv, hv1, -, -⟩ := F0.out.2.2.1.below b1
  obtain ⟨V2, vc2, rv2, hv2, -, -⟩ := F0.out.2.2.2.1.below b1
  have B1 := hid (And.intro b1 (And.intro hv1 (And.intro hv2 (And.intro cg cg2))))
  clear H b1 hv1 hv2
  go_wp2
  refine wp_loop_rounds 3 ?_
  rw [rounds_succ]
  go_wp2_with fail
  refine T.out.mono ?_
  rintro e w2 ⟨rfl, k2, m2⟩
  have kt2 : KB [C, D] [293] [] [] w1 w2 := KB.of_keeps m2 B1.out.2.1 (.head _) (.head _)
  have hD2 := (F0.out.2.2.2.1.below B1.out.1).other m2 ⟨_, B1.out.2.1⟩ (fun e => F0.out.2.2.2.2.1 e.symm)
  have cg1 := m2.cell B1.out.2.2.2.2 (fun e => by
    subst e
    have h1 := B1.out.2.2.2.2
    rw [cell_of_row _ _ _ _ _ _ B1.out.2.1] at h1
    cases h1)
  have gS2 := kt2.1.cells (below_heap B1.out.1 F0.out.1) (by decide)
  have gM2 := kt2.1.map (below_heap B1.out.1 F0.out.2.1) (by simp)
  clear c0 lk T
  have c0 := cell_at gS2 (i := 0) (v := .map (some SM)) rfl
  have lk := (look_hit (k := .string k') Tryz.underlying135 Tryz.underlying9 trivial gM2 (i := 1) (v := .pointer (some ⟨D, 0, none⟩)) (by
    rw [show (#[entS k (.pointer (some ⟨C, 0, none⟩)) 0, entS k' (.pointer (some ⟨D, 0, none⟩)) 1] : Array MapEntry).toList = [entS k (.pointer (some ⟨C, 0, none⟩)) 0, entS k' (.pointer (some ⟨D, 0, none⟩)) 1] from rfl, find_skip (fun e => F0.out.2.2.2.2.2 e.symm)]
    exact find_at _ _ _ _ _)).1
  have T := hid (ctrim_any (x := x) hD2)
  obtain ⟨V3, vc3, rv3, hv3, -, -⟩ := hD2
  have B2 := hid (And.intro kt2 (And.intro hv3 k2))
  clear kt2 hv3 k2 m2 gS2 gM2 cg cg2
  go_wp2
  rw [rounds_succ]
  go_wp2_with fail
  refine T.out.mono ?_
  rintro e w3 ⟨rfl, k3, m3⟩
  have FF := hid (show ChainK w3 C at_ ∧ ChainK w3 D at2 ∧ KB [C, D] [293] [] [] w w3 from ⟨B2.out.2.2.other m3 ⟨_, B2.out.2.1⟩ F0.out.2.2.2.2.1, k3, ((KB.of_below B1.out.1).trans B2.out.1).trans (KB.of_keeps m3 B2.out.2.1 (.head _) (by simp))⟩)
  clear T k3 m3 c0 lk cg1
  go_wp2
  rw [rounds_succ]
  go_wp2
  go_ret
  exact ⟨rfl, FF.out⟩
end
section
variable {P : Program}
theorem next_none (w : World) (ty : TypeId) (bm cl : Nat) (hb : w.heap[bm]? = some (.map #[] cl)) :
    (Instr.next (.pointer (some ⟨w.heap.size, 0, none⟩)) false ty).run P (w.alloc (.mapIter (some bm) cl #[] cl)) = .ok (.tuple #[.bool false]) (w.alloc (.mapIter (some bm) cl #[] cl)) := by
  rcases run_next_map (P := P) w ty bm cl cl #[] #[] cl hb (by simp) (Nat.le_refl _) with ⟨_, h⟩ | ⟨e, he, _⟩
  · exact h
  · simp [leftOf] at he
theorem next_over (w : World) (ty : TypeId) (bm cl : Nat) (e : MapEntry) (hb : w.heap[bm]? = some (.map #[e] cl)) (he : e.born < cl) :
    (Instr.next (.pointer (some ⟨w.heap.size, 0, none⟩)) false ty).run P (w.alloc (.mapIter (some bm) cl (#[].push e.born) cl)) = .ok (.tuple #[.bool false]) (w.alloc (.mapIter (some bm) cl (#[].push e.born) cl)) := by
  rcases run_next_map (P := P) w ty bm cl cl (#[].push e.born) #[e] cl hb (by simpa using he) (Nat.le_refl _) with ⟨_, h⟩ | ⟨x, hx, _⟩
  · exact h
  · simp [leftOf] at hx
theorem next_first (w : World) (ty : TypeId) (bm cl : Nat) (e : MapEntry) (hb : w.heap[bm]? = some (.map #[e] cl)) (he : e.born < cl) :
    (Instr.next (.pointer (some ⟨w.heap.size, 0, none⟩)) false ty).run P (w.alloc (.mapIter (some bm) cl #[] cl)) = .ok (.tuple #[.bool true, e.key, e.val]) (w.alloc (.mapIter (some bm) cl (#[].push e.born) cl)) := by
  have hb' : (w.alloc (.mapIter (some bm) cl #[] cl)).heap[bm]? = some (.map #[e] cl) := by rw [heap_alloc_old w _ (lt_of_block hb), hb]
  have hp : ∀ (h : Array Obj) (x y : Obj), (h.push x).setIfInBounds h.size y = h.push y := by
    intro h x y
    apply Array.toList_inj.1
    simp
  have hset : ∀ (a : Option Nat) (b : Nat) (c : Array Nat) (d : Nat) (o' : Obj), (setObj w.heap.size o').run P (w.alloc (.mapIter a b c d)) = .ok () (w.alloc o') := fun a b c d o' => by
    simp only [setObj, Sem.run]
    rw [heap_alloc_new]
    show Result.ok () ({ w.alloc (.mapIter a b c d) with heap := (w.heap.push (.mapIter a b c d)).setIfInBounds w.heap.size o' } : World) = _
    rw [hp]
    rfl
  simp only [Instr.next, getObj, Sem.run_bind, Sem.run, heap_alloc_new, hb', Result.andThen, next_test_false #[] #[e] cl cl (by simpa using he) (Nat.le_refl _), Bool.false_eq_true, if_false]
  have e1 : Array.filter (fun x : MapEntry => !(#[] : Array Nat).contains x.born) #[e] = #[e] := by simp
  have e2 : Array.filter (fun x : MapEntry => decide (x.born < cl)) #[e] = #[e] := by simp [he]
  have e3 : Array.filter (fun x : MapEntry => decide (x.born ≥ cl)) #[e] = #[] := by simp; omega
  simp only [e1, e2, e3]
  have hch : ∀ W : World, (choose (Question.mapNext 1)).run P W = .ok 0 W := fun W => by simp [choose, Sem.run, Question.forced]
  have hsz : ((if (#[e] : Array MapEntry).isEmpty = true then #[none] else #[]) ++ Array.map some (#[e] ++ #[])).size = 1 := by simp
  have hget : ((if (#[e] : Array MapEntry).isEmpty = true then #[none] else #[]) ++ Array.map some (#[e] ++ #[]))[0]? = some (some e) := by simp
  rw [hsz, hch]
  simp only [hget, Sem.run_bind, hset, Result.andThen]
  rfl
end
section
variable {w : World} {L Tb tc S SM O R n rc : Nat} {next now : Int} {cl T M b : Nat} {id : Int}
theorem base_any (hT : w.heap[T]? = some (.cells (txC M) 306 (0, 0))) : Calls Tryz.prog 128 #[.pointer (some ⟨T, 0, none⟩)] w fun e w' => e = .returned (.int .i64 0) ∧ w = w' := by
  have c0 := cell_at hT (i := 0) (v := .int .i64 0) rfl
  clear hT
  go_enter Tryz.func128, Tryz.ntmps128
  go_wp2
  go_ret
  exact ⟨rfl, rfl⟩
theorem below_none (hL : w.heap[L]? = some (.cells (ledC Tb tc S O next R n rc) 95 (0, 0))) (hS : w.heap[S]? = some (.cells (stoC SM now) 137 (0, 0))) (hO : w.heap[O]? = some (.map #[] cl)) :
    Calls Tryz.prog 71 #[.pointer (some ⟨L, 0, none⟩)] w fun e w' => (∃ v, e = .returned (.int .i64 v)) ∧ Below w.heap.size w w' := by
  have c1 := cell_at hL (i := 1) (v := .pointer (some ⟨S, 0, none⟩)) rfl
  have c2 := cell_at hL (i := 2) (v := .map (some O)) rfl
  have H := hid (snow_any hS)
  have rg := run_range_map (P := Tryz.prog) w 92 3 233 O #[] cl Tryz.underlying92 hO
  have nx := fun ty => next_none (P := Tryz.prog) w ty O cl hO
  clear hL hS hO
  go_enter Tryz.func71, Tryz.ntmps71
  go_wp2_with fail
  refine H.out.mono ?_
  rintro e w1 ⟨rfl, rfl⟩
  clear H
  go_wp2
  refine wp_loop_rounds 1 ?_
  rw [rounds_succ]
  go_wp2
  go_ret
  exact ⟨⟨_, rfl⟩, by go_grown⟩
theorem below_one (hL : w.heap[L]? = some (.cells (ledC Tb tc S O next R n rc) 95 (0, 0))) (hS : w.heap[S]? = some (.cells (stoC SM now) 137 (0, 0))) (hO : w.heap[O]? = some (.map #[⟨.int .i64 id, .pointer (some ⟨T, 0, none⟩), b⟩] cl)) (hb : b < cl) (hT : w.heap[T]? = some (.cells (txC M) 306 (0, 0))) :
    Calls Tryz.prog 71 #[.pointer (some ⟨L, 0, none⟩)] w fun e w' => (∃ v, e = .returned (.int .i64 v)) ∧ Below w.heap.size w w' := by
  have c1 := cell_at hL (i := 1) (v := .pointer (some ⟨S, 0, none⟩)) rfl
  have c2 := cell_at hL (i := 2) (v := .map (some O)) rfl
  have H := hid (snow_any hS)
  have rg := run_range_map (P := Tryz.prog) w 92 3 233 O _ cl Tryz.underlying92 hO
  have nx : ∀ ty, (Instr.next (.pointer (some ⟨w.heap.size, 0, none⟩)) false ty).run Tryz.prog (w.alloc (.mapIter (some O) cl #[] cl)) = .ok (.tuple #[.bool true, .int .i64 id, .pointer (some ⟨T, 0, none⟩)]) (w.alloc (.mapIter (some O) cl #[b] cl)) := fun ty => next_first (P := Tryz.prog) w ty O cl _ hO hb
  have no : ∀ ty, (Instr.next (.pointer (some ⟨w.heap.size, 0, none⟩)) false ty).run Tryz.prog (w.alloc (.mapIter (some O) cl #[b] cl)) = .ok (.tuple #[.bool false]) (w.alloc (.mapIter (some O) cl #[b] cl)) := fun ty => next_over (P := Tryz.prog) w ty O cl _ hO hb
  have en : (Instr.entry (.pointer (some ⟨w.heap.size, 0, none⟩))).run Tryz.prog (w.alloc (.mapIter (some O) cl #[b] cl)) = .ok (.tuple #[.int .i64 id, .pointer (some ⟨T, 0, none⟩)]) (w.alloc (.mapIter (some O) cl #[b] cl)) := run_entry_map (P := Tryz.prog) w O cl #[] _ cl ⟨.int .i64 id, .pointer (some ⟨T, 0, none⟩), b⟩ hO (by simp) (by simp)
  have BT := hid (base_any (below_heap (below_alloc (Below.refl _ w) (.mapIter (some O) cl #[b] cl)) hT))
  clear hL hS hO hT hb
  go_enter Tryz.func71, Tryz.ntmps71
  go_wp2_with fail
  refine H.out.mono ?_
  rintro e w1 ⟨rfl, rfl⟩
  clear H
  go_wp2
  refine wp_loop_rounds 2 ?_
  rw [rounds_succ]
  go_wp2_with fail
  refine BT.out.mono ?_
  rintro e w1 ⟨rfl, rfl⟩
  clear BT
  go_wp2
  rw [rounds_succ]
  go_wp2
  go_ret
  exact ⟨⟨_, rfl⟩, by go_grown⟩
end
end Go.Proofs.YtnidgljkbmceaaaGreatDoor
namespace Go.Proofs.YtnidgljkbmceaaaGreatDoor
open Go.RowKit PrintLast
theorem index_str {w : World} (s : ByteArray) (k : Nat) (hk : k < s.data.toList.length) : (Instr.index 9 (.string s) (.int .i64 (k : Int))).run Tryz.prog w = .ok (.int .u8 ((s.data.toList[k]).toNat : Int)) w := by
  have hs : k < s.size := by simpa using hk
  rw [run_index_string w 9 s .i64 (k : Int) Tryz.underlying9, dif_pos (by omega)]
  simp
  rfl
def bitOf (l : List UInt8) (i : Int) : Int := if i < 0 then 0 else if h : i.toNat / 8 < l.length then ((l[i.toNat / 8].toNat / 2 ^ (7 - i.toNat % 8) % 2 : Nat) : Int) else 0
theorem and_one (n : Nat) (h : n < 256) : bits .and .i64 (n : Int) 1 = ((n % 2 : Nat) : Int) := by
  show IntKind.i64.wrap ((BitVec.ofInt 64 (n : Int) &&& BitVec.ofInt 64 ((1 : Nat) : Int)).toNat : Int) = _
  rw [BitVec.toNat_and, ofInt_u64 n (by omega), ofInt_u64 1 (by omega), Nat.and_one_is_mod]
  have : n % 2 = 0 ∨ n % 2 = 1 := by omega
  rcases this with e | e <;> rw [e] <;> rfl
set_option maxRecDepth 100000 in
set_option maxHeartbeats 1600000 in
theorem bit_any {w : World} {s : ByteArray} {i : Int} (hs : s.data.toList.length ≤ 1000000000) (hi : -9223372036854775808 ≤ i ∧ i ≤ 9223372036854775807) :
    Calls Tryz.prog 197 #[.string s, .int .i64 i] w fun e w' => e = .returned (.int .i64 (bitOf s.data.toList i)) ∧ w = w' := by
  obtain ⟨l, hl⟩ : ∃ l, l = s.data.toList := ⟨_, rfl⟩
  have hz : (s.size : Int) = (l.length : Int) := by rw [hl]; simp
  have IS := hid (fun (k : Nat) (hk : k < l.length) (w : World) => show (Instr.index 9 (.string s) (.int .i64 (k : Int))).run Tryz.prog w = .ok (.int .u8 ((l[k]).toNat : Int)) w by subst hl; exact index_str s k hk)
  rw [← hl] at hs ⊢
  clear hl
  by_cases h0 : i < 0
  · have t0 : decide (i < 0) = true := by simp; omega
    have eb : bitOf l i = 0 := by unfold bitOf; rw [if_pos h0]
    rw [eb]
    go_enter Tryz.func197, Tryz.ntmps197
    go_wp2
    go_ret
    exact ⟨rfl, rfl⟩
  · obtain ⟨n, rfl⟩ : ∃ n : Nat, i = (n : Int) := ⟨i.toNat, by omega⟩
    obtain ⟨q, hq⟩ : ∃ q, q = n / 8 := ⟨_, rfl⟩
    have eq : (n : Int).tdiv 8 = (q : Int) := by rw [Int.tdiv_eq_ediv_of_nonneg (by omega)]; omega
    have t0 : decide ((n : Int) < 0) = false := by simp
    by_cases hlt : q < l.length
    · have tq : decide ((l.length : Int) ≤ (q : Int)) = false := by simp; omega
      have iq := IS.out q hlt
      have eb : bitOf l (n : Int) = (((l[q]).toNat / 2 ^ (7 - n % 8) % 2 : Nat) : Int) := by
        unfold bitOf
        rw [if_neg h0]
        simp only [Int.toNat_natCast, ← hq, hlt, dif_pos]
      rw [eb]
      obtain ⟨x, hx⟩ : ∃ x, x = l[q] := ⟨_, rfl⟩
      simp only [← hx] at iq ⊢
      have xl := x.toNat_lt
      obtain ⟨v, hv⟩ : ∃ v, v = x.toNat / 2 ^ (7 - n % 8) := ⟨_, rfl⟩
      have v256 : v < 256 := by rw [hv]; exact Nat.lt_of_le_of_lt (Nat.div_le_self _ _) xl
      have ev : (x.toNat : Int) / 2 ^ (7 - n % 8) = (v : Int) := by rw [hv]; simp
      have ea := and_one
      rw [← hv]
      clear hq hx hv eb h0
      go_enter Tryz.func197, Tryz.ntmps197
      go_wp2
      go_ret
      exact ⟨rfl, rfl⟩
    · have tq : decide ((l.length : Int) ≤ (q : Int)) = true := by simp; omega
      have eb : bitOf l (n : Int) = 0 := by
        unfold bitOf
        rw [if_neg h0]
        simp only [Int.toNat_natCast, ← hq]
        rw [dif_neg hlt]
      rw [eb]
      clear eb
      go_enter Tryz.func197, Tryz.ntmps197
      go_wp2
      go_ret
      exact ⟨rfl, rfl⟩
structure Itm where
  key : ByteArray
  row : List UInt8
def pathK (k : ByteArray) : List UInt8 := sum256 k.data.toList
def btK (k : ByteArray) (d : Nat) : Int := bitOf (pathK k) (d : Int)
theorem bitOf_two (l : List UInt8) (i : Int) : bitOf l i = 0 ∨ bitOf l i = 1 := by
  unfold bitOf
  split
  · exact .inl rfl
  · split
    · omega
    · exact .inl rfl
theorem btK_two (k : ByteArray) (d : Nat) : btK k d = 0 ∨ btK k d = 1 := bitOf_two _ _
def halfI (l : List Itm) (d : Nat) (b : Int) : List Itm := l.filter fun x => btK x.key d == b
inductive Tr where
  | nil : Tr
  | leaf : Itm → Tr
  | node : Tr → Tr → Tr
def Tr.count : Tr → Nat
  | .nil => 0
  | .leaf _ => 1
  | .node l r => l.count + r.count
def Tr.ht : Tr → Nat
  | .nil => 0
  | .leaf _ => 0
  | .node l r => max l.ht r.ht + 1
def leafD (x : Itm) : List UInt8 := leafB x.key.data.toList x.row
def Tr.dig : Tr → List UInt8
  | .nil => sum256 [0]
  | .leaf x => sum256 (leafD x)
  | .node l r => sum256 (nodeB l.dig r.dig)
def Tr.Wf : Tr → Prop
  | .nil => True
  | .leaf _ => True
  | .node l r => 0 < l.count + r.count ∧ l.Wf ∧ r.Wf
def treeF : Nat → List Itm → Tr
  | _, [] => .nil
  | _, [x] => .leaf x
  | 0, x :: _ :: _ => .leaf x
  | f + 1, x :: y :: l => .node (treeF f (halfI (x :: y :: l) (255 - f) 0)) (treeF f (halfI (x :: y :: l) (255 - f) 1))
theorem treeF_nil (f : Nat) : treeF f [] = .nil := by cases f <;> rfl
theorem treeF_one (f : Nat) (x : Itm) : treeF f [x] = .leaf x := by cases f <;> rfl
theorem treeF_big (f : Nat) (l : List Itm) (h : 2 ≤ l.length) : treeF (f + 1) l = .node (treeF f (halfI l (255 - f) 0)) (treeF f (halfI l (255 - f) 1)) := by
  match l, h with
  | x :: y :: l, _ => rfl
theorem half_length (l : List Itm) (d : Nat) : (halfI l d 0).length + (halfI l d 1).length = l.length := by
  induction l with
  | nil => rfl
  | cons x l ih =>
    unfold halfI at ih ⊢
    rcases btK_two x.key d with h | h
    · simp [List.filter_cons, h]; omega
    · simp [List.filter_cons, h]; omega
theorem half_mem {l : List Itm} {d : Nat} {b : Int} {x : Itm} : x ∈ halfI l d b ↔ x ∈ l ∧ btK x.key d = b := by
  unfold halfI; rw [List.mem_filter]; simp
structure Good (f : Nat) (l : List Itm) : Prop where
  once : l.Pairwise fun x y => pathK x.key ≠ pathK y.key
  alike : ∀ x ∈ l, ∀ y ∈ l, ∀ i, i < 256 - f → btK x.key i = btK y.key i
theorem pow_bits (x y : Nat) (hx : x < 256) (hy : y < 256) (h : ∀ j, j < 8 → x / 2 ^ j % 2 = y / 2 ^ j % 2) : x = y := by
  apply Nat.eq_of_testBit_eq
  intro j
  rw [Nat.testBit_eq_decide_div_mod_eq, Nat.testBit_eq_decide_div_mod_eq]
  by_cases hj : j < 8
  · rw [h j hj]
  · have h1 : 2 ^ 8 ≤ 2 ^ j := Nat.pow_le_pow_right (by omega) (by omega)
    rw [Nat.div_eq_of_lt (by omega), Nat.div_eq_of_lt (by omega)]
theorem bits_eq {p q : List UInt8} (hp : p.length = 32) (hq : q.length = 32) (h : ∀ i : Nat, i < 256 → bitOf p i = bitOf q i) : p = q := by
  apply List.ext_getElem (by omega)
  intro k h1 h2
  apply UInt8.toNat_inj.1
  refine pow_bits _ _ p[k].toNat_lt q[k].toNat_lt (fun j hj => ?_)
  have := h (8 * k + (7 - j)) (by omega)
  unfold bitOf at this
  have e1 : ((8 * k + (7 - j) : Nat) : Int).toNat / 8 = k := by omega
  have e2 : ((8 * k + (7 - j) : Nat) : Int).toNat % 8 = 7 - j := by omega
  rw [if_neg (by omega), if_neg (by omega)] at this
  simp only [e1, e2] at this
  rw [dif_pos h1, dif_pos h2, show 7 - (7 - j) = j by omega] at this
  exact Int.ofNat.inj this
theorem path_length (k : ByteArray) : (pathK k).length = 32 := sum256_length _
theorem Good.few {l : List Itm} (h : Good 0 l) : l.length ≤ 1 := by
  match l, h with
  | [], _ => simp
  | [x], _ => simp
  | x :: y :: l, h =>
    exfalso
    have h1 := (List.pairwise_cons.1 h.once).1 y (by simp)
    refine h1 (bits_eq (path_length _) (path_length _) (fun i hi => h.alike x (by simp) y (by simp) i (by omega)))
theorem Good.half {f : Nat} {l : List Itm} (h : Good (f + 1) l) (b : Int) (hf : f < 256) : Good f (halfI l (255 - f) b) := by
  refine ⟨h.once.filter _, fun x hx y hy i hi => ?_⟩
  obtain ⟨x1, x2⟩ := half_mem.1 hx
  obtain ⟨y1, y2⟩ := half_mem.1 hy
  by_cases hi' : i < 256 - (f + 1)
  · exact h.alike x x1 y y1 i hi'
  · obtain rfl : i = 255 - f := by omega
    rw [x2, y2]
theorem Good.sub {f : Nat} {l l' : List Itm} (h : Good f l) (hs : l'.Sublist l) : Good f l' :=
  ⟨h.once.sublist hs, fun x hx y hy => h.alike x (hs.subset hx) y (hs.subset hy)⟩
theorem Good.perm {f : Nat} {l l' : List Itm} (h : Good f l) (hp : l.Perm l') : Good f l' :=
  ⟨(hp.pairwise_iff (fun {a b} (e : pathK a.key ≠ pathK b.key) => Ne.symm e)).1 h.once, fun x hx y hy => h.alike x (hp.mem_iff.2 hx) y (hp.mem_iff.2 hy)⟩
theorem half_perm {l l' : List Itm} (h : l.Perm l') (d : Nat) (b : Int) : (halfI l d b).Perm (halfI l' d b) := h.filter _
theorem treeF_perm (f : Nat) : ∀ {l l' : List Itm}, Good f l → f ≤ 256 → l.Perm l' → treeF f l = treeF f l' := by
  induction f with
  | zero =>
    intro l l' hg _ hp
    have h1 := hg.few
    match l, h1, hp with
    | [], _, hp => rw [List.Perm.nil_eq hp.symm.symm]
    | [x], _, hp => rw [(List.singleton_perm.1 hp)]
  | succ f ih =>
    intro l l' hg hf hp
    have hl := hp.length_eq
    by_cases h2 : 2 ≤ l.length
    · rw [treeF_big f l h2, treeF_big f l' (by omega), ih (hg.half 0 (by omega)) (by omega) (half_perm hp _ _), ih (hg.half 1 (by omega)) (by omega) (half_perm hp _ _)]
    · match l, h2, hp with
      | [], _, hp => rw [List.Perm.nil_eq hp.symm.symm]
      | [x], _, hp => rw [(List.singleton_perm.1 hp)]
      | x :: y :: l, h2, _ => simp at h2
def joinT : Tr → Tr → Tr
  | .nil, .nil => .nil
  | .nil, .leaf x => .leaf x
  | .leaf x, .nil => .leaf x
  | l, r => .node l r
theorem treeF_node_of {f : Nat} {l : List Itm} (hg : Good f l) (h : 2 ≤ l.length) : ∃ a b, treeF f l = .node a b := by
  cases f with
  | zero => have := hg.few; omega
  | succ f => exact ⟨_, _, treeF_big f l h⟩
theorem join_tree {f : Nat} {l : List Itm} (hg : Good (f + 1) l) (hf : f < 256) : joinT (treeF f (halfI l (255 - f) 0)) (treeF f (halfI l (255 - f) 1)) = treeF (f + 1) l := by
  have hlen := half_length l (255 - f)
  have g0 := hg.half 0 hf
  have g1 := hg.half 1 hf
  by_cases h2 : 2 ≤ l.length
  · rw [treeF_big f l h2]
    generalize halfI l (255 - f) 0 = A at *
    generalize halfI l (255 - f) 1 = B at *
    by_cases hA : 2 ≤ A.length
    · obtain ⟨a, b, e⟩ := treeF_node_of g0 hA
      rw [e]; rfl
    · by_cases hB : 2 ≤ B.length
      · obtain ⟨a, b, e⟩ := treeF_node_of g1 hB
        rw [e]
        cases treeF f A <;> rfl
      · match A, B, hA, hB, hlen with
        | [x], [y], _, _, _ => rw [treeF_one, treeF_one]; rfl
        | [], [], _, _, h => simp at h; omega
        | [], [y], _, _, h => simp at h; omega
        | [x], [], _, _, h => simp at h; omega
        | _ :: _ :: _, _, h, _, _ => simp at h
        | _, _ :: _ :: _, _, h, _ => simp at h
  · match l, h2 with
    | [], _ => simp [halfI, treeF_nil, joinT]
    | [x], _ =>
      rw [treeF_one]
      unfold halfI
      rcases btK_two x.key (255 - f) with h | h
      · simp [List.filter_cons, h, treeF_nil, treeF_one, joinT]
      · simp [List.filter_cons, h, treeF_nil, treeF_one, joinT]
    | x :: y :: l, h2 => simp at h2
theorem half_two (a b : Itm) (d : Nat) (c : Int) : halfI [a, b] d c = (if btK a.key d = c then [a] else []) ++ (if btK b.key d = c then [b] else []) := by
  unfold halfI
  by_cases h1 : btK a.key d = c <;> by_cases h2 : btK b.key d = c <;> simp [List.filter_cons, h1, h2]
def putI (l : List Itm) (x : Itm) : List Itm := x :: l.filter fun y => decide (y.key ≠ x.key)
def delI (l : List Itm) (k : ByteArray) : List Itm := l.filter fun y => decide (y.key ≠ k)
theorem filter_comm {α : Type} (p q : α → Bool) (l : List α) : (l.filter p).filter q = (l.filter q).filter p := by
  rw [List.filter_filter, List.filter_filter]
  congr 1
  funext x
  rw [Bool.and_comm]
theorem half_del (l : List Itm) (k : ByteArray) (d : Nat) (b : Int) : halfI (delI l k) d b = delI (halfI l d b) k := filter_comm _ _ _
theorem del_other {l : List Itm} {k : ByteArray} {d : Nat} {b : Int} (h : btK k d ≠ b) : delI (halfI l d b) k = halfI l d b := by
  unfold delI
  rw [List.filter_eq_self]
  intro x hx
  have := (half_mem.1 hx).2
  simp only [decide_eq_true_eq]
  rintro rfl
  exact h this
theorem half_put_same {l : List Itm} {x : Itm} {d : Nat} {b : Int} (h : btK x.key d = b) : halfI (putI l x) d b = putI (halfI l d b) x := by
  have := half_del l x.key d b
  unfold halfI delI putI at *
  rw [List.filter_cons, if_pos (by simp [h]), this]
theorem half_put_other {l : List Itm} {x : Itm} {d : Nat} {b : Int} (h : btK x.key d ≠ b) : halfI (putI l x) d b = halfI l d b := by
  have h1 := half_del l x.key d b
  have h2 := del_other (l := l) h
  unfold halfI delI putI at *
  rw [List.filter_cons, if_neg (by simp [h]), h1, h2]
def Tells (l : List Itm) (k : ByteArray) : Prop := ∀ y ∈ l, pathK y.key = pathK k → y.key = k
theorem treeF_count (f : Nat) : ∀ {l : List Itm}, f ≤ 256 → Good f l → (treeF f l).count = l.length := by
  induction f with
  | zero =>
    intro l _ hg
    match l, hg.few with
    | [], _ => rfl
    | [x], _ => rfl
  | succ f ih =>
    intro l hf hg
    by_cases h2 : 2 ≤ l.length
    · rw [treeF_big f l h2]
      unfold Tr.count
      rw [ih (by omega) (hg.half 0 (by omega)), ih (by omega) (hg.half 1 (by omega)), half_length]
    · match l, h2 with
      | [], _ => rfl
      | [x], _ => rfl
      | x :: y :: l, h2 => simp at h2
theorem treeF_wf (f : Nat) : ∀ {l : List Itm}, f ≤ 256 → Good f l → (treeF f l).Wf := by
  induction f with
  | zero =>
    intro l _ hg
    match l, hg.few with
    | [], _ => trivial
    | [x], _ => trivial
  | succ f ih =>
    intro l hf hg
    by_cases h2 : 2 ≤ l.length
    · rw [treeF_big f l h2]
      have g0 := hg.half 0 (by omega)
      have g1 := hg.half 1 (by omega)
      refine ⟨?_, ih (by omega) g0, ih (by omega) g1⟩
      rw [treeF_count f (by omega) g0, treeF_count f (by omega) g1, half_length]
      omega
    · match l, h2 with
      | [], _ => trivial
      | [x], _ => trivial
      | x :: y :: l, h2 => simp at h2
theorem single_nil {w : World} : Calls Tryz.prog 193 #[.pointer none] w fun e w' => e = .returned (.bool false) ∧ w = w' := by
  go_enter Tryz.func193, Tryz.ntmps193
  go_wp2
  go_ret
  exact ⟨rfl, rfl⟩
def digS (t : Tr) : ByteArray := strB t.dig
def pathS (k : ByteArray) : ByteArray := dig k.data.toList
theorem pathS_list (k : ByteArray) : (pathS k).data.toList = pathK k := dig_list _
theorem digS_list (t : Tr) : (digS t).data.toList = t.dig := strB_list _
theorem dig_len (t : Tr) : t.dig.length = 32 := by cases t <;> exact sum256_length _
theorem digS_size (t : Tr) : (digS t).size = 32 := by unfold digS; rw [strB_size, dig_len]
def ncells (l r : Value) (path key : ByteArray) (row : Value) (d : ByteArray) (n : Nat) : Array Value := #[l, r, .string path, .string key, row, .string d, .int .i64 (n : Int)]
def TreeAt (w : World) (N : Nat) : Value → Tr → Prop
  | v, .nil => v = .pointer none
  | v, .leaf x => ∃ g B d, v = .pointer (some ⟨g, 0, none⟩) ∧ g < N ∧ w.heap[g]? = some (.cells (ncells (.pointer none) (.pointer none) (pathS x.key) x.key (.slice B x.row.length d) (digS (.leaf x)) 1) 299 (0, 0)) ∧ BSA w B d x.row ∧ (0 < x.row.length → ∃ gb o, B = some ⟨gb, o, none⟩ ∧ gb < N)
  | v, .node l r => ∃ g vl vr, v = .pointer (some ⟨g, 0, none⟩) ∧ g < N ∧ w.heap[g]? = some (.cells (ncells vl vr ⟨#[]⟩ ⟨#[]⟩ (.slice none 0 0) (digS (.node l r)) (l.count + r.count)) 299 (0, 0)) ∧ TreeAt w N vl l ∧ TreeAt w N vr r
theorem bsa_move {w w' : World} {N : Nat} {B : Option Addr} {d : Nat} {l : List UInt8} (h : BSA w B d l) (hb : Below N w w') (h3 : 0 < l.length → ∃ g o, B = some ⟨g, o, none⟩ ∧ g < N) : BSA w' B d l := by
  refine ⟨h.1, h.2.1, h.2.2.1, fun ad e j hj => ?_⟩
  obtain ⟨g, o, e3, hg⟩ := h3 (by omega)
  have hc := h.2.2.2 ad e j hj
  rw [e3] at e
  cases e
  exact (hb.cell (by rw [addr_add_block]; exact hg)).trans hc
theorem TreeAt.move {w w' : World} {N : Nat} {v : Value} {t : Tr} (h : TreeAt w N v t) (hb : Below N w w') : TreeAt w' N v t := by
  induction t generalizing v with
  | nil => exact h
  | leaf x =>
    obtain ⟨g, B, d, h1, h2, h3, h4, h5⟩ := h
    exact ⟨g, B, d, h1, h2, (hb.block g h2).trans h3, bsa_move h4 hb h5, h5⟩
  | node l r ihl ihr =>
    obtain ⟨g, vl, vr, h1, h2, h3, h4, h5⟩ := h
    exact ⟨g, vl, vr, h1, h2, (hb.block g h2).trans h3, ihl h4, ihr h5⟩
theorem TreeAt.raise {w : World} {N N' : Nat} {v : Value} {t : Tr} (h : TreeAt w N v t) (hN : N ≤ N') : TreeAt w N' v t := by
  induction t generalizing v with
  | nil => exact h
  | leaf x =>
    obtain ⟨g, B, d, h1, h2, h3, h4, h5⟩ := h
    refine ⟨g, B, d, h1, by omega, h3, h4, fun h0 => ?_⟩
    obtain ⟨gb, o, e, h6⟩ := h5 h0
    exact ⟨gb, o, e, by omega⟩
  | node l r ihl ihr =>
    obtain ⟨g, vl, vr, h1, h2, h3, h4, h5⟩ := h
    exact ⟨g, vl, vr, h1, by omega, h3, ihl h4, ihr h5⟩
def Tree (w : World) (v : Value) (t : Tr) : Prop := TreeAt w w.heap.size v t
theorem Tree.below {w w' : World} {v : Value} {t : Tr} (h : Tree w v t) (hb : Below w.heap.size w w') : Tree w' v t := (TreeAt.move h hb).raise hb.size
theorem Tree.nil (w : World) : Tree w (.pointer none) .nil := rfl
theorem TreeAt.ptr {w : World} {N : Nat} {v : Value} {t : Tr} (h : TreeAt w N v t) : (t = .nil ∧ v = .pointer none) ∨ ∃ g, v = .pointer (some ⟨g, 0, none⟩) ∧ t ≠ .nil := by
  cases t with
  | nil => exact .inl ⟨rfl, h⟩
  | leaf x => obtain ⟨g, B, d, h1, _⟩ := h; exact .inr ⟨g, h1, by intro e; cases e⟩
  | node l r => obtain ⟨g, vl, vr, h1, _⟩ := h; exact .inr ⟨g, h1, by intro e; cases e⟩
theorem seven {w : World} {g : Nat} {a b c d e f i : Value} {t : TypeId} (h : w.heap[g]? = some (.cells #[a, b, c, d, e, f, i] t (0, 0))) :
    w.cell? ⟨g, 0, none⟩ = some a ∧ w.cell? ⟨g, 1, none⟩ = some b ∧ w.cell? ⟨g, 2, none⟩ = some c ∧ w.cell? ⟨g, 3, none⟩ = some d ∧ w.cell? ⟨g, 4, none⟩ = some e ∧ w.cell? ⟨g, 5, none⟩ = some f ∧ w.cell? ⟨g, 6, none⟩ = some i :=
  ⟨cell_at h rfl, cell_at h rfl, cell_at h rfl, cell_at h rfl, cell_at h rfl, cell_at h rfl, cell_at h rfl⟩
theorem path_ne (k : ByteArray) : (pathS k).toList.isEmpty = false ∧ ¬ (pathS k).toList = [] := by
  have h : (pathS k).toList.length = 32 := by
    unfold pathS dig
    rw [ByteArray.toList_mk]
    simp [sum256_length]
  constructor
  · cases hl : (pathS k).toList with
    | nil => rw [hl] at h; simp at h
    | cons a l => rfl
  · intro e
    rw [e] at h
    simp at h
set_option maxHeartbeats 1600000 in
theorem single_leaf {w : World} {v : Value} {x : Itm} {N : Nat} (h : TreeAt w N v (.leaf x)) :
    Calls Tryz.prog 193 #[v] w fun e w' => e = .returned (.bool true) ∧ w = w' := by
  obtain ⟨g, B, d, rfl, _, h3, _⟩ := h
  obtain ⟨c0, c1, c2, c3, c4, c5, c6⟩ := seven h3
  obtain ⟨e1, e2⟩ := path_ne x.key
  generalize pathS x.key = p at *
  clear h3 c0 c1 c3 c4 c5 c6
  go_enter Tryz.func193, Tryz.ntmps193
  go_wp2
  go_ret
  exact ⟨rfl, rfl⟩
set_option maxHeartbeats 1600000 in
theorem single_node {w : World} {v : Value} {l r : Tr} {N : Nat} (h : TreeAt w N v (.node l r)) :
    Calls Tryz.prog 193 #[v] w fun e w' => e = .returned (.bool false) ∧ w = w' := by
  obtain ⟨g, vl, vr, rfl, _, h3, _⟩ := h
  obtain ⟨c0, c1, c2, c3, c4, c5, c6⟩ := seven h3
  clear h3 c0 c1 c3 c4 c5 c6
  go_enter Tryz.func193, Tryz.ntmps193
  go_wp2
  go_ret
  exact ⟨rfl, rfl⟩
def isLeaf : Tr → Bool
  | .leaf _ => true
  | _ => false
theorem single_any {w : World} {v : Value} {t : Tr} {N : Nat} (h : TreeAt w N v t) :
    Calls Tryz.prog 193 #[v] w fun e w' => e = .returned (.bool (isLeaf t)) ∧ w = w' := by
  cases t with
  | nil => cases h; exact single_nil
  | leaf x => exact single_leaf h
  | node l r => exact single_node h
set_option maxHeartbeats 1600000 in
theorem len_any {w : World} {v : Value} {t : Tr} {N : Nat} (h : TreeAt w N v t) :
    Calls Tryz.prog 260 #[v] w fun e w' => e = .returned (.int .i64 (t.count : Int)) ∧ w = w' := by
  cases t with
  | nil =>
    cases h
    go_enter Tryz.func260, Tryz.ntmps260
    go_wp2
    go_ret
    exact ⟨rfl, rfl⟩
  | leaf x =>
    obtain ⟨g, B, d, rfl, _, h3, _⟩ := h
    obtain ⟨c0, c1, c2, c3, c4, c5, c6⟩ := seven h3
    clear h3 c0 c1 c2 c3 c4 c5
    go_enter Tryz.func260, Tryz.ntmps260
    go_wp2
    go_ret
    exact ⟨rfl, rfl⟩
  | node l r =>
    obtain ⟨g, vl, vr, rfl, _, h3, _⟩ := h
    obtain ⟨c0, c1, c2, c3, c4, c5, c6⟩ := seven h3
    obtain ⟨n, hn⟩ : ∃ n, n = l.count + r.count := ⟨_, rfl⟩
    rw [← hn] at c6
    have HN := hid hn
    clear h3 c0 c1 c2 c3 c4 c5 hn
    go_enter Tryz.func260, Tryz.ntmps260
    go_wp2
    go_ret
    exact ⟨by rw [show (Tr.node l r).count = n from HN.out.symm]; rfl, rfl⟩
set_option maxHeartbeats 1600000 in
theorem digest_any {w : World} (hT : Table w) {v : Value} {t : Tr} {N : Nat} (h : TreeAt w N v t) :
    Calls Tryz.prog 124 #[v] w fun e w' => e = .returned (.string (digS t)) ∧ Below w.heap.size w w' := by
  cases t with
  | nil =>
    cases h
    have H := hid (empty_any hT)
    go_enter Tryz.func124, Tryz.ntmps124
    go_wp2_with fail
    refine H.out.mono ?_
    rintro e w1 ⟨rfl, b1⟩
    go_wp2
    go_ret
    exact ⟨rfl, b1⟩
  | leaf x =>
    obtain ⟨g, B, d, rfl, _, h3, _⟩ := h
    obtain ⟨c0, c1, c2, c3, c4, c5, c6⟩ := seven h3
    clear h3 c0 c1 c2 c3 c4 c6 hT
    go_enter Tryz.func124, Tryz.ntmps124
    go_wp2
    go_ret
    exact ⟨rfl, Below.refl _ _⟩
  | node l r =>
    obtain ⟨g, vl, vr, rfl, _, h3, _⟩ := h
    obtain ⟨c0, c1, c2, c3, c4, c5, c6⟩ := seven h3
    clear h3 c0 c1 c2 c3 c4 c6 hT
    go_enter Tryz.func124, Tryz.ntmps124
    go_wp2
    go_ret
    exact ⟨rfl, Below.refl _ _⟩
theorem Row.heap {w : World} {B c g : Nat} {l : List UInt8} (h : Row w B (some ⟨g, 0, none⟩) c l) : ∃ cur, w.heap[g]? = some (.cells cur 5 (0, 0)) ∧ l.length ≤ cur.size ∧ B ≤ g := by
  have hl := h.1
  rcases h.2 with ⟨h', _⟩ | ⟨g', cap', cur, h', hb, hg, hnc, hcm, hcs, _⟩
  · simp at h'
  · simp only [Value.slice.injEq, Option.some.injEq, Addr.mk.injEq, and_true, true_and] at h'
    obtain ⟨rfl, rfl⟩ := h'
    exact ⟨cur, hg, by omega, hb⟩
theorem Row.set {w : World} {B c g : Nat} {l : List UInt8} (h : Row w B (some ⟨g, 0, none⟩) c l) (k : Nat) (b : UInt8) : Row (w.setCell ⟨g, k, none⟩ (.int .u8 (b.toNat : Int))) B (some ⟨g, 0, none⟩) c (l.set k b) := by
  have h1 := (World.ownsRow.stored h k (.int .u8 (b.toNat : Int))).1
  unfold Row
  have e : bytesV (l.set k b) = (bytesV l).set k (.int .u8 (b.toNat : Int)) := by unfold bytesV; rw [List.map_set]
  rw [e, List.length_set]
  exact h1
def part (l : List UInt8) (b : UInt8) (k : Nat) : List UInt8 := List.replicate k b ++ l.drop k
end Go.Proofs.YtnidgljkbmceaaaGreatDoor
