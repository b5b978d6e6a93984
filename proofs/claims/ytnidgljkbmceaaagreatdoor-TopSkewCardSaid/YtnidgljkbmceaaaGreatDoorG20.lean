/- TopSkew's walks: those that are taken, and told. (printed by gen_le.py) -/
import Derived.Test.YtnidgljkbmceaaaGreatDoorG19
import Derived.Test.YtnidgljkbmceaaaGreatDoorG07
import Derived.Handy
import Derived.Test.YtnidgljkbmceaaaGreatDoorPn
import Derived.Test.YtnidgljkbmceaaaGreatDoorG06
import Derived.Test.YtnidgljkbmceaaaGreatDoorG08
set_option linter.unusedVariables false
set_option linter.unusedSimpArgs false
namespace Go.Proofs.YtnidgljkbmceaaaGreatDoor
open Go.RowKit PrintLast Go.Maps Go.MapKept
theorem own_cap1 {w : World} {base e n : Nat} {g m c : Nat} {xs : List Value} (h : w.ownsRow base e 1 (.slice (some ⟨g, 0, none⟩) m c) n xs) (h0 : 0 < n) : n ≤ c ∧ c ≤ 9223372036854775807 := by
  rcases h.2 with ⟨_, h1⟩ | ⟨g', cap, cur, e', _, _, h1, h2, _⟩
  · omega
  · cases e'; unfold maxLen at h2; exact ⟨h1, by omega⟩
theorem row_news1 {w : World} {base e g m c n : Nat} {xs : List Value} (h : w.ownsRow base e 1 (.slice (some ⟨g, 0, none⟩) m c) n xs) (j : Nat) (u : Value) (hu : xs[j]? = some u) : w.cell? ⟨g, j, none⟩ = some u := by
  have := h.cells (g := g) rfl j u hu
  rwa [add_plain] at this
theorem eqlI (w : World) (a : Option Addr) (n c n' c' : Nat) : (binOp .eql 110 (.slice a n c) (.slice none n' c')).run Tryz.prog w = .ok (.bool a.isNone) w := Lib.run_eql_slice_nil w _ _ a n c n' c' Tryz.underlying110
set_option maxHeartbeats 1600000 in
theorem cloneI_any {w : World} {I n c : Nat} {l : List Value} (h1 : w.ownsRow 0 3 1 (.slice (some ⟨I, 0, none⟩) n c) n l) (hn : 1 ≤ n ∧ n ≤ 3) (hl : ∀ u ∈ l, u.oneCell' = true) : Calls Tryz.prog 94 #[.slice (some ⟨I, 0, none⟩) n c] w fun e w' => ∃ I' c', e = .returned (.slice (some ⟨I', 0, none⟩) n c') ∧ w'.ownsRow 0 3 1 (.slice (some ⟨I', 0, none⟩) n c') n l ∧ w.heap.size ≤ I' ∧ Below w.heap.size w w' := by
  have q22 := @eqlI
  obtain ⟨i0, hi, hz0, hz1, hz2⟩ := info_parts infoInt
  have al := below_alloc (Below.refl _ w) (.cells #[] 3)
  have h1' := below_own al h1
  have H1 := hid h1'
  have HL := hid (And.intro (show l.length = n * 1 from h1.1) (And.intro hn hl))
  clear h1 h1' hl hn al
  go_enter Tryz.func94, Tryz.ntmps94
  go_wp2_with (at_builtin; refine wpList_app rfl (.tmp 5) (.tmp 6) 110 rfl 3 i0 (.int .i64 0) 1 8 Tryz.underlying110 hi hz0 hz1 hz2 rfl (by decide) _ 0 [] rfl (own_empty w 3 1) (some ⟨I, 0, none⟩) n c l rfl HL.out.1 (fun e => by cases e) (fun ad e j u hu => by cases e; rw [add_plain]; exact row_news1 H1.out j u hu) HL.out.2.2 (by have := HL.out.2.1; unfold maxLen; omega) (by have := HL.out.2.1; omega) ?_)
  intro A2 c2 w2 m1 m2 m3 m4
  try simp only [List.nil_append, Nat.zero_add] at m1 m3 ⊢
  obtain ⟨g, rfl⟩ := slice_of m1 (by have := HL.out.2.1; omega)
  have FF := hid (show w2.ownsRow 0 3 1 (.slice (some ⟨g, 0, none⟩) n c2) n l ∧ w.heap.size ≤ g ∧ Below w.heap.size w w2 from ⟨m1, by
    rcases m3 with e | e
    · simp [Value.ownBlock] at e; omega
    · simp [Value.ownBlock] at e; omega, ((Below.refl _ _).alloc (Nat.le_refl _) _).grown m2 (by simp) (fun k hk => by simp [Value.ownBlock] at hk; omega)⟩)
  clear m1 m2 m3 m4 H1 hi hz0 hz1 hz2
  go_wp2
  go_ret
  exact ⟨g, c2, rfl, FF.out⟩
theorem gTaken_k {w : World} {P L lg Q I n c : Nat} {ph N : Int} {td wv : Value} {l : List Value} (h : w.heap[P]? = some (.cells (grpC L lg Q ph (.slice (some ⟨I, 0, none⟩) n c) td N wv) 113 (0, 0))) (h1 : w.ownsRow 0 3 1 (.slice (some ⟨I, 0, none⟩) n c) n l) (hn : 1 ≤ n ∧ n ≤ 3) (hl : ∀ u ∈ l, u.oneCell' = true) : Calls Tryz.prog 48 #[.pointer (some ⟨P, 0, none⟩)] w fun e w' => ∃ I' c', e = .returned (.slice (some ⟨I', 0, none⟩) n c') ∧ w'.ownsRow 0 3 1 (.slice (some ⟨I', 0, none⟩) n c') n l ∧ w.heap.size ≤ I' ∧ Below w.heap.size w w' := by
  have c5 := cell_at h (i := 5) (v := .slice (some ⟨I, 0, none⟩) n c) rfl
  have H := hid (cloneI_any h1 hn hl)
  clear h h1 hn hl
  go_enter Tryz.func48, Tryz.ntmps48
  go_wp2_with fail
  with_reducible refine H.out.mono ?_
  rintro e w1 ⟨g, c2, rfl, hp⟩
  have FF := hid hp
  clear hp H c5
  go_wp2
  go_ret
  exact ⟨g, c2, rfl, FF.out⟩
theorem eqlE (w : World) (a : Option Addr) (n c n' c' : Nat) : (binOp .eql 111 (.slice a n c) (.slice none n' c')).run Tryz.prog w = .ok (.bool a.isNone) w := Lib.run_eql_slice_nil w _ _ a n c n' c' Tryz.underlying111
set_option maxHeartbeats 1600000 in
theorem cloneE_any {w : World} {I n c : Nat} {l : List Value} (h1 : w.ownsRow 0 24 1 (.slice (some ⟨I, 0, none⟩) n c) n l) (hn : 1 ≤ n ∧ n ≤ 3) (hl : ∀ u ∈ l, u.oneCell' = true) : Calls Tryz.prog 95 #[.slice (some ⟨I, 0, none⟩) n c] w fun e w' => ∃ I' c', e = .returned (.slice (some ⟨I', 0, none⟩) n c') ∧ w'.ownsRow 0 24 1 (.slice (some ⟨I', 0, none⟩) n c') n l ∧ w.heap.size ≤ I' ∧ Below w.heap.size w w' := by
  have q22 := @eqlE
  obtain ⟨i0, hi, hz0, hz1, hz2⟩ := info_parts infoE
  have al := below_alloc (Below.refl _ w) (.cells #[] 24)
  have h1' := below_own al h1
  have H1 := hid h1'
  have HL := hid (And.intro (show l.length = n * 1 from h1.1) (And.intro hn hl))
  clear h1 h1' hl hn al
  go_enter Tryz.func95, Tryz.ntmps95
  go_wp2_with (at_builtin; refine wpList_app rfl (.tmp 5) (.tmp 6) 111 rfl 24 i0 (.int .i64 0) 1 8 Tryz.underlying111 hi hz0 hz1 hz2 rfl (by decide) _ 0 [] rfl (own_empty w 24 1) (some ⟨I, 0, none⟩) n c l rfl HL.out.1 (fun e => by cases e) (fun ad e j u hu => by cases e; rw [add_plain]; exact row_news1 H1.out j u hu) HL.out.2.2 (by have := HL.out.2.1; unfold maxLen; omega) (by have := HL.out.2.1; omega) ?_)
  intro A2 c2 w2 m1 m2 m3 m4
  try simp only [List.nil_append, Nat.zero_add] at m1 m3 ⊢
  obtain ⟨g, rfl⟩ := slice_of m1 (by have := HL.out.2.1; omega)
  have FF := hid (show w2.ownsRow 0 24 1 (.slice (some ⟨g, 0, none⟩) n c2) n l ∧ w.heap.size ≤ g ∧ Below w.heap.size w w2 from ⟨m1, by
    rcases m3 with e | e
    · simp [Value.ownBlock] at e; omega
    · simp [Value.ownBlock] at e; omega, ((Below.refl _ _).alloc (Nat.le_refl _) _).grown m2 (by simp) (fun k hk => by simp [Value.ownBlock] at hk; omega)⟩)
  clear m1 m2 m3 m4 H1 hi hz0 hz1 hz2
  go_wp2
  go_ret
  exact ⟨g, c2, rfl, FF.out⟩
theorem gTold_k {w : World} {P L lg Q I n c : Nat} {ph N : Int} {tk wv : Value} {l : List Value} (h : w.heap[P]? = some (.cells (grpC L lg Q ph tk (.slice (some ⟨I, 0, none⟩) n c) N wv) 113 (0, 0))) (h1 : w.ownsRow 0 24 1 (.slice (some ⟨I, 0, none⟩) n c) n l) (hn : 1 ≤ n ∧ n ≤ 3) (hl : ∀ u ∈ l, u.oneCell' = true) : Calls Tryz.prog 49 #[.pointer (some ⟨P, 0, none⟩)] w fun e w' => ∃ I' c', e = .returned (.slice (some ⟨I', 0, none⟩) n c') ∧ w'.ownsRow 0 24 1 (.slice (some ⟨I', 0, none⟩) n c') n l ∧ w.heap.size ≤ I' ∧ Below w.heap.size w w' := by
  have c5 := cell_at h (i := 6) (v := .slice (some ⟨I, 0, none⟩) n c) rfl
  have H := hid (cloneE_any h1 hn hl)
  clear h h1 hn hl
  go_enter Tryz.func49, Tryz.ntmps49
  go_wp2_with fail
  with_reducible refine H.out.mono ?_
  rintro e w1 ⟨g, c2, rfl, hp⟩
  have FF := hid hp
  clear hp H c5
  go_wp2
  go_ret
  exact ⟨g, c2, rfl, FF.out⟩
end Go.Proofs.YtnidgljkbmceaaaGreatDoor
namespace Go.Proofs.YtnidgljkbmceaaaGreatDoor
open Go.RowKit PrintLast
theorem conv_lit {w : World} (l : List UInt8) (hl : l.length ≤ 1000) {n : Nat} (hn : l.length = n) : (convert 36 9 (.slice (some ⟨w.heap.size, 0, none⟩) n n)).run Tryz.prog (w.alloc (.cells (bytesV l).toArray 5)) = .ok (.string (strB l)) (w.alloc (.cells (bytesV l).toArray 5)) := by
  have h := lits_bsa w l hl
  subst hn
  exact conv_any rfl h
theorem last_cell {w0 : World} {cs z : Array Value} {t : TypeId} {g i : Nat} {v : Value} (hg : g = w0.heap.size) (hv : cs[i]? = some v) : (w0.alloc (.cells (cs ++ z) t)).cell? ⟨g, i, none⟩ = some v := by
  subst hg
  have hi : i < cs.size := (Array.getElem?_eq_some_iff.1 hv).1
  refine cell_at (heap_alloc_new w0 (.cells (cs ++ z) t)) ?_
  rw [Array.getElem?_append_left hi]
  exact hv
set_option maxRecDepth 100000 in
set_option maxHeartbeats 1000000 in
theorem tables_nil {w : World} : Calls Tryz.prog 6 #[.slice none 0 0] w fun e w' => ∃ T C c, e = .returned (.slice (some ⟨T, 0, none⟩) 1 c) ∧ TabAt w' T C ∧ Below w.heap.size w w' := by
  have cv := conv_lit (w := w.alloc (.cells #[.slice none 0 0, .int .u8 0] 67)) [116, 48] (by decide) (n := 2) rfl
  rw [show (w.alloc (.cells #[.slice none 0 0, .int .u8 0] 67)).heap.size = w.heap.size + 1 by simp, show (bytesV [116, 48]).toArray = #[.int .u8 116, .int .u8 48] from rfl, show strB [116, 48] = ⟨#[116, 48]⟩ from rfl] at cv
  go_enter Tryz.func6, Tryz.ntmps6
  go_wp2
  refine wp_loop_rounds 2 ?_
  rw [rounds_succ]
  go_wp2
  refine wp_loop_rounds 1 ?_
  rw [rounds_succ]
  go_wp2
  refine wp_loop_rounds 1 ?_
  rw [rounds_succ]
  go_wp2
  rw [rounds_succ]
  go_wp2
  go_ret
  refine ⟨w.heap.size + 1 + 1 + 1 + 1 + 1, w.heap.size + 1 + 1, _, rfl, ?_, by go_grown⟩
  have e : ∀ (W : World) a, W.drew.cell? a = W.cell? a := fun _ _ => rfl
  refine ⟨?_, ?_, ?_, by go_cell, by go_cell, by go_cell⟩
  · rw [e]; exact last_cell (by simp) (by rfl)
  · rw [e]; exact last_cell (by simp) (by rfl)
  · rw [e]; exact last_cell (by simp) (by rfl)
def first0 : ByteArray := dig (linkB (sum256 [0]) (sum256 [0]) (sum256 []))
theorem first_any {w : World} (hT : Table w) : Calls Tryz.prog 29 #[] w fun e w' => e = .returned (.string first0) ∧ Below w.heap.size w w' := by
  have TT := hid hT
  clear hT
  go_enter Tryz.func29, Tryz.ntmps29
  have H1 := hid (empty_any TT.out)
  go_wp2_with fail
  refine H1.out.mono ?_
  rintro e w1 ⟨rfl, b1⟩
  have H2 := hid (empty_any (TT.out.below b1))
  have BB := hid b1
  clear H1 b1
  go_wp2_with fail
  refine H2.out.mono ?_
  rintro e w2 ⟨rfl, b2⟩
  replace BB := hid (below_then BB.out b2)
  have H3 := hid (link_any (TT.out.below BB.out) (a := dig [0]) (b := dig [0]) (by rw [dig_size]; omega) (by rw [dig_size]; omega) (by simp) (BSA.nil w2))
  clear H2 b2
  go_wp2_with fail
  refine H3.out.mono ?_
  rintro e w3 ⟨rfl, b3⟩
  have BF := below_then BB.out b3
  simp only [dig_list]
  go_wp2
  go_ret
  exact ⟨rfl, BF⟩
theorem rfirst_any {w : World} : Calls Tryz.prog 12 #[] w fun e w' => e = .returned (.string first0) ∧ Below w.heap.size w w' := by
  go_enter Tryz.func12, Tryz.ntmps12
  have H1 := hid (rempty_any (w := w))
  go_wp2_with fail
  refine H1.out.mono ?_
  rintro e w1 ⟨rfl, b1⟩
  have H2 := hid (rempty_any (w := w1))
  have BB := hid b1
  clear H1 b1
  go_wp2_with fail
  refine H2.out.mono ?_
  rintro e w2 ⟨rfl, b2⟩
  replace BB := hid (below_then BB.out b2)
  have H3 := hid (rlink_any (w := w2) (a := dig [0]) (b := dig [0]) (by rw [dig_size]; omega) (by rw [dig_size]; omega) (by simp) (BSA.nil w2))
  clear H2 b2
  go_wp2_with fail
  refine H3.out.mono ?_
  rintro e w3 ⟨rfl, b3⟩
  have BF := below_then BB.out b3
  simp only [dig_list]
  go_wp2
  go_ret
  exact ⟨rfl, BF⟩
theorem store_new {w : World} : Calls Tryz.prog 32 #[] w fun e w' => ∃ S, e = .returned (.pointer (some ⟨S, 0, none⟩)) ∧ Below w.heap.size w w' := by
  have hmm := @run_makeMap Tryz.prog
  go_enter Tryz.func32, Tryz.ntmps32
  go_wp2
  go_ret
  exact ⟨_, rfl, by go_grown⟩
def st0 : Array Value := #[.string first0, .string (dig [0]), .string (dig []), .pointer none]
set_option maxRecDepth 100000 in
set_option maxHeartbeats 3200000 in
theorem ledger_new {w : World} (hT : Table w) {T C c : Nat} (h : TabAt w T C) : Calls Tryz.prog 14 #[.slice (some ⟨T, 0, none⟩) 1 c] w fun e w' => ∃ L R : Nat, e = .returned (.tuple #[.pointer (some ⟨L, 0, none⟩), .int .i64 0]) ∧
    w'.cell? ⟨L, 4, none⟩ = some (.slice (some ⟨R, 0, none⟩) 1 1) ∧ w'.heap[R]? = some (.cells st0 89 (0, 0)) ∧ Below w.heap.size w w' := by
  have TT := hid hT
  have HR := hid (right_one (c := c) h)
  clear hT h
  have hmm := @run_makeMap Tryz.prog
  go_enter Tryz.func14, Tryz.ntmps14
  go_wp2_with fail
  refine HR.out.mono ?_
  rintro e w1 ⟨rfl, b1⟩
  have BB := hid b1
  have HF := hid (first_any (TT.out.below b1))
  clear HR b1
  go_wp2_with fail
  refine HF.out.mono ?_
  rintro e w2 ⟨rfl, b2⟩
  replace BB := hid (below_then BB.out b2)
  have HE := hid (empty_any (TT.out.below BB.out))
  clear HF b2
  go_wp2_with fail
  refine HE.out.mono ?_
  rintro e w3 ⟨rfl, b3⟩
  replace BB := hid (below_then BB.out b3)
  have HS := hid (sum_dig (n := 0) rfl (TT.out.below BB.out) (BSA.nil w3) (by simp))
  clear HE b3
  go_wp2_with fail
  refine HS.out.mono ?_
  rintro e w4 ⟨rfl, b4⟩
  replace BB := hid (below_then BB.out b4)
  clear HS b4
  obtain ⟨d0, hd0⟩ : ∃ d, d = first0 := ⟨_, rfl⟩
  obtain ⟨d1, hd1⟩ : ∃ d, d = dig [0] := ⟨_, rfl⟩
  obtain ⟨d2, hd2⟩ : ∃ d, d = dig [] := ⟨_, rfl⟩
  rw [← hd0, ← hd1, ← hd2]
  have HD := hid (show st0 = #[.string d0, .string d1, .string d2, .pointer none] by rw [hd0, hd1, hd2]; rfl)
  clear hd0 hd1 hd2
  obtain ⟨g, hg⟩ : ∃ g, g = w4.heap.size := ⟨_, rfl⟩
  have G0 := heap_alloc_new w4 (.cells #[.string d0, .string d1, .string d2, .pointer none] 89)
  have al := below_alloc (Below.refl _ w4) (.cells #[.string d0, .string d1, .string d2, .pointer none] 89)
  rw [← hg] at G0
  have HG := hid hg
  replace BB := hid (below_then BB.out al)
  clear al hg
  go_upto_region 4 with fail
  rw [← HG.out]
  generalize w4.alloc (.cells #[.string d0, .string d1, .string d2, .pointer none] 89) = w5 at *
  obtain ⟨v0, v1, v2, v3, -, -, -, -⟩ := four G0
  have HN : Hid (∀ w' : World, Calls Tryz.prog 32 #[] w' fun e w'' => ∃ S, e = .returned (.pointer (some ⟨S, 0, none⟩)) ∧ Below w'.heap.size w' w'') := hid (fun w' => store_new)
  have NR : ∀ {w1 : World} (g : Nat), Below w5.heap.size w5 w1 → w1.heap.size = g → (w1.alloc (.cells #[.string d0, .string d1, .string d2, .pointer none] 89)).heap[g]? = some (.cells #[.string d0, .string d1, .string d2, .pointer none] 89 (0, 0)) := fun g _ e => by subst e; exact heap_alloc_new _ _
  go_wp2
  refine start_ (n := 9) (S := fun w' => w'.cell? ⟨g, 0, none⟩ = some (.string d0) ∧ w'.cell? ⟨g, 1, none⟩ = some (.string d1) ∧ w'.cell? ⟨g, 2, none⟩ = some (.string d2) ∧ w'.cell? ⟨g, 3, none⟩ = some (.pointer none) ∧ Below w5.heap.size w5 w') (ds := []) (tf 9 0) (by kernel_rfl) rfl rfl ⟨v0, v1, v2, v3, (Below.refl w5.heap.size w5).drew⟩ (fun hHeld => ?_); refine pure_ (i := 0) (N := some 12) (v := ?_) (a' := ?_) (tf 9 1) rfl rfl (by kernel_rfl) (fun _ _ _ h => h) (Or.inl ⟨by rfl, ?_⟩) ?_ ?_; rotate_left; (· intro w'; go_simp; (with_reducible rfl)); rotate_left; (· simp only [pn_]; rfl); refine take_ (i := 3) (N := some 15) (v := ?_) (a' := ?_) (tf 9 9) rfl rfl (by kernel_rfl) (fun _ _ _ h => h) (Or.inl ⟨by rfl, ?_⟩) hHeld ?_ ?_; rotate_left; (· rintro w' ⟨s0, s1, s2, s3, s4⟩; go_simp; (with_reducible rfl)); rotate_left; (· simp only [pn_]; rfl); refine join_ (σ := Nat × Nat × Nat) 4 (tf 9 31) (fun s => [(13, .pointer (some ⟨s.1, 0, none⟩)), (14, .map (some s.2.1)), (16, .slice (some ⟨s.2.2, 0, none⟩) 1 1)]) (fun s w' => w'.heap[s.2.2]? = some (.cells #[.string d0, .string d1, .string d2, .pointer none] 89 (0, 0)) ∧ w'.cell? ⟨g, 0, none⟩ = some (.string d0) ∧ w'.cell? ⟨g, 1, none⟩ = some (.string d1) ∧ w'.cell? ⟨g, 2, none⟩ = some (.string d2) ∧ w'.cell? ⟨g, 3, none⟩ = some (.pointer none) ∧ Below w5.heap.size w5 w') ?_ ?_; rotate_left
  · intro hCont
    refine three_ (i := 1) (j := 2) (k := 4) (Ni := some 13) (Nj := some 14) (Nk := some 16) (tf 9 11) (tf 9 13) (tf 9 25) rfl rfl rfl rfl rfl rfl (by kernel_rfl) (by decide) (by decide) (by decide) (fun K hK => ?_) (fun K hK => ?_) (fun K hK => ?_)
    · skip
      refine goes_ Tryz.func32 (by kernel_rfl) rfl #[] (by rfl) rfl rfl (by simp only [List.map_toArray, List.map_cons, List.map_nil]) ?_; (with_reducible refine ((HN.out _)).mono ?_); rintro e' wy ⟨S3, rfl, by_⟩; refine ⟨_, rfl, ?_⟩; refine hK.out _ _ ⟨(below_cell by_ hHeld.1), (below_cell by_ hHeld.2.1), (below_cell by_ hHeld.2.2.1), (below_cell by_ hHeld.2.2.2.1), (below_then hHeld.2.2.2.2 by_)⟩ (fun hHeld => ?_); clear hK K; refine norm_ (a' := ?_) ?_ ?_; rotate_left; (· show Act.put _ (some 13) _ = _; simp only [pn_]; rfl); refine two_ (i := 2) (j := 4) (Ni := some 14) (Nj := some 16) (tf 9 15) (tf 9 27) rfl rfl rfl rfl (by kernel_rfl) (by decide) (by decide) (fun K hK => ?_) (fun K hK => ?_)
      · skip
        refine value_ (w1 := ?_) (v := ?_) (by rfl) rfl ?_ ?_; rotate_left 2; (· go_simp; constructor; (· rfl); (· rfl)); refine hK.out _ _ ⟨(below_cell (below_alloc (Below.refl _ _) (.map #[] 0)) hHeld.1), (below_cell (below_alloc (Below.refl _ _) (.map #[] 0)) hHeld.2.1), (below_cell (below_alloc (Below.refl _ _) (.map #[] 0)) hHeld.2.2.1), (below_cell (below_alloc (Below.refl _ _) (.map #[] 0)) hHeld.2.2.2.1), (below_then hHeld.2.2.2.2 (below_alloc (Below.refl _ _) (.map #[] 0)))⟩ (fun hHeld => ?_); clear hK K; refine norm_ (a' := ?_) ?_ ?_; rotate_left; (· show Act.put _ (some 14) _ = _; simp only [pn_]; rfl); refine one_ (i := 4) (N := some 16) (tf 9 31) rfl rfl (by kernel_rfl) (by decide) (fun K hK => ?_); refine value_ (w1 := ?_) (v := ?_) (by rfl) rfl ?_ ?_; rotate_left 2; (· go_simp; constructor; (· rfl); (· rfl)); have k16 := NR (wy.heap.size + 1) hHeld.2.2.2.2 (by simp); refine hK.out _ _ ⟨(below_cell (below_alloc (Below.refl _ _) (.cells #[.string d0, .string d1, .string d2, .pointer none] 89)) hHeld.1), (below_cell (below_alloc (Below.refl _ _) (.cells #[.string d0, .string d1, .string d2, .pointer none] 89)) hHeld.2.1), (below_cell (below_alloc (Below.refl _ _) (.cells #[.string d0, .string d1, .string d2, .pointer none] 89)) hHeld.2.2.1), (below_cell (below_alloc (Below.refl _ _) (.cells #[.string d0, .string d1, .string d2, .pointer none] 89)) hHeld.2.2.2.1), (below_then hHeld.2.2.2.2 (below_alloc (Below.refl _ _) (.cells #[.string d0, .string d1, .string d2, .pointer none] 89)))⟩ (fun hHeld => ?_); clear hK K; refine norm_ (a' := ?_) ?_ ?_; rotate_left; (· show Act.put _ (some 16) _ = _; simp only [pn_]; rfl); exact norm_ (by first | (simp only [putAll, Act.put, List.setIfInBounds_toArray, List.set_cons_zero, List.set_cons_succ]; done) | (simp only [putAll, Act.put, List.setIfInBounds_toArray, List.set_cons_zero, List.set_cons_succ]; rfl)) (hCont (S3, wy.heap.size, (wy.heap.size + 1)) _ ⟨k16, hHeld⟩)
      · skip
        refine value_ (w1 := ?_) (v := ?_) (by rfl) rfl ?_ ?_; rotate_left 2; (· go_simp; constructor; (· rfl); (· rfl)); have k16 := NR wy.heap.size hHeld.2.2.2.2 (by simp); refine hK.out _ _ ⟨(below_cell (below_alloc (Below.refl _ _) (.cells #[.string d0, .string d1, .string d2, .pointer none] 89)) hHeld.1), (below_cell (below_alloc (Below.refl _ _) (.cells #[.string d0, .string d1, .string d2, .pointer none] 89)) hHeld.2.1), (below_cell (below_alloc (Below.refl _ _) (.cells #[.string d0, .string d1, .string d2, .pointer none] 89)) hHeld.2.2.1), (below_cell (below_alloc (Below.refl _ _) (.cells #[.string d0, .string d1, .string d2, .pointer none] 89)) hHeld.2.2.2.1), (below_then hHeld.2.2.2.2 (below_alloc (Below.refl _ _) (.cells #[.string d0, .string d1, .string d2, .pointer none] 89)))⟩ (fun hHeld => ?_); clear hK K; refine norm_ (a' := ?_) ?_ ?_; rotate_left; (· show Act.put _ (some 16) _ = _; simp only [pn_]; rfl); refine one_ (i := 2) (N := some 14) (tf 9 31) rfl rfl (by kernel_rfl) (by decide) (fun K hK => ?_); refine value_ (w1 := ?_) (v := ?_) (by rfl) rfl ?_ ?_; rotate_left 2; (· go_simp; constructor; (· rfl); (· rfl))
        replace k16 := below_heap (below_alloc (Below.refl _ _) (.map #[] 0)) k16
        refine hK.out _ _ ⟨(below_cell (below_alloc (Below.refl _ _) (.map #[] 0)) hHeld.1), (below_cell (below_alloc (Below.refl _ _) (.map #[] 0)) hHeld.2.1), (below_cell (below_alloc (Below.refl _ _) (.map #[] 0)) hHeld.2.2.1), (below_cell (below_alloc (Below.refl _ _) (.map #[] 0)) hHeld.2.2.2.1), (below_then hHeld.2.2.2.2 (below_alloc (Below.refl _ _) (.map #[] 0)))⟩ (fun hHeld => ?_); clear hK K; refine norm_ (a' := ?_) ?_ ?_; rotate_left; (· show Act.put _ (some 14) _ = _; simp only [pn_]; rfl); exact norm_ (by first | (simp only [putAll, Act.put, List.setIfInBounds_toArray, List.set_cons_zero, List.set_cons_succ]; done) | (simp only [putAll, Act.put, List.setIfInBounds_toArray, List.set_cons_zero, List.set_cons_succ]; rfl)) (hCont (S3, (wy.heap.size + 1), wy.heap.size) _ ⟨k16, hHeld⟩)
    · skip
      refine value_ (w1 := ?_) (v := ?_) (by rfl) rfl ?_ ?_; rotate_left 2; (· go_simp; constructor; (· rfl); (· rfl)); refine hK.out _ _ ⟨(below_cell (below_alloc (Below.refl _ _) (.map #[] 0)) hHeld.1), (below_cell (below_alloc (Below.refl _ _) (.map #[] 0)) hHeld.2.1), (below_cell (below_alloc (Below.refl _ _) (.map #[] 0)) hHeld.2.2.1), (below_cell (below_alloc (Below.refl _ _) (.map #[] 0)) hHeld.2.2.2.1), (below_then hHeld.2.2.2.2 (below_alloc (Below.refl _ _) (.map #[] 0)))⟩ (fun hHeld => ?_); clear hK K; refine norm_ (a' := ?_) ?_ ?_; rotate_left; (· show Act.put _ (some 14) _ = _; simp only [pn_]; rfl); refine two_ (i := 1) (j := 4) (Ni := some 13) (Nj := some 16) (tf 9 15) (tf 9 29) rfl rfl rfl rfl (by kernel_rfl) (by decide) (by decide) (fun K hK => ?_) (fun K hK => ?_)
      · skip
        refine goes_ Tryz.func32 (by kernel_rfl) rfl #[] (by rfl) rfl rfl (by simp only [List.map_toArray, List.map_cons, List.map_nil]) ?_; (with_reducible refine ((HN.out _)).mono ?_); rintro e' wy ⟨S3, rfl, by_⟩; refine ⟨_, rfl, ?_⟩; refine hK.out _ _ ⟨(below_cell by_ hHeld.1), (below_cell by_ hHeld.2.1), (below_cell by_ hHeld.2.2.1), (below_cell by_ hHeld.2.2.2.1), (below_then hHeld.2.2.2.2 by_)⟩ (fun hHeld => ?_); clear hK K; refine norm_ (a' := ?_) ?_ ?_; rotate_left; (· show Act.put _ (some 13) _ = _; simp only [pn_]; rfl); refine one_ (i := 4) (N := some 16) (tf 9 31) rfl rfl (by kernel_rfl) (by decide) (fun K hK => ?_); refine value_ (w1 := ?_) (v := ?_) (by rfl) rfl ?_ ?_; rotate_left 2; (· go_simp; constructor; (· rfl); (· rfl)); have k16 := NR wy.heap.size hHeld.2.2.2.2 (by simp); refine hK.out _ _ ⟨(below_cell (below_alloc (Below.refl _ _) (.cells #[.string d0, .string d1, .string d2, .pointer none] 89)) hHeld.1), (below_cell (below_alloc (Below.refl _ _) (.cells #[.string d0, .string d1, .string d2, .pointer none] 89)) hHeld.2.1), (below_cell (below_alloc (Below.refl _ _) (.cells #[.string d0, .string d1, .string d2, .pointer none] 89)) hHeld.2.2.1), (below_cell (below_alloc (Below.refl _ _) (.cells #[.string d0, .string d1, .string d2, .pointer none] 89)) hHeld.2.2.2.1), (below_then hHeld.2.2.2.2 (below_alloc (Below.refl _ _) (.cells #[.string d0, .string d1, .string d2, .pointer none] 89)))⟩ (fun hHeld => ?_); clear hK K; refine norm_ (a' := ?_) ?_ ?_; rotate_left; (· show Act.put _ (some 16) _ = _; simp only [pn_]; rfl); exact norm_ (by first | (simp only [putAll, Act.put, List.setIfInBounds_toArray, List.set_cons_zero, List.set_cons_succ]; done) | (simp only [putAll, Act.put, List.setIfInBounds_toArray, List.set_cons_zero, List.set_cons_succ]; rfl)) (hCont (S3, w5.heap.size, wy.heap.size) _ ⟨k16, hHeld⟩)
      · skip
        refine value_ (w1 := ?_) (v := ?_) (by rfl) rfl ?_ ?_; rotate_left 2; (· go_simp; constructor; (· rfl); (· rfl)); have k16 := NR (w5.heap.size + 1) hHeld.2.2.2.2 (by simp); refine hK.out _ _ ⟨(below_cell (below_alloc (Below.refl _ _) (.cells #[.string d0, .string d1, .string d2, .pointer none] 89)) hHeld.1), (below_cell (below_alloc (Below.refl _ _) (.cells #[.string d0, .string d1, .string d2, .pointer none] 89)) hHeld.2.1), (below_cell (below_alloc (Below.refl _ _) (.cells #[.string d0, .string d1, .string d2, .pointer none] 89)) hHeld.2.2.1), (below_cell (below_alloc (Below.refl _ _) (.cells #[.string d0, .string d1, .string d2, .pointer none] 89)) hHeld.2.2.2.1), (below_then hHeld.2.2.2.2 (below_alloc (Below.refl _ _) (.cells #[.string d0, .string d1, .string d2, .pointer none] 89)))⟩ (fun hHeld => ?_); clear hK K; refine norm_ (a' := ?_) ?_ ?_; rotate_left; (· show Act.put _ (some 16) _ = _; simp only [pn_]; rfl); refine one_ (i := 1) (N := some 13) (tf 9 31) rfl rfl (by kernel_rfl) (by decide) (fun K hK => ?_); refine goes_ Tryz.func32 (by kernel_rfl) rfl #[] (by rfl) rfl rfl (by simp only [List.map_toArray, List.map_cons, List.map_nil]) ?_; (with_reducible refine ((HN.out _)).mono ?_); rintro e' wy ⟨S3, rfl, by_⟩; refine ⟨_, rfl, ?_⟩
        replace k16 := below_heap by_ k16
        refine hK.out _ _ ⟨(below_cell by_ hHeld.1), (below_cell by_ hHeld.2.1), (below_cell by_ hHeld.2.2.1), (below_cell by_ hHeld.2.2.2.1), (below_then hHeld.2.2.2.2 by_)⟩ (fun hHeld => ?_); clear hK K; refine norm_ (a' := ?_) ?_ ?_; rotate_left; (· show Act.put _ (some 13) _ = _; simp only [pn_]; rfl); exact norm_ (by first | (simp only [putAll, Act.put, List.setIfInBounds_toArray, List.set_cons_zero, List.set_cons_succ]; done) | (simp only [putAll, Act.put, List.setIfInBounds_toArray, List.set_cons_zero, List.set_cons_succ]; rfl)) (hCont (S3, w5.heap.size, (w5.heap.size + 1)) _ ⟨k16, hHeld⟩)
    · skip
      refine value_ (w1 := ?_) (v := ?_) (by rfl) rfl ?_ ?_; rotate_left 2; (· go_simp; constructor; (· rfl); (· rfl)); have k16 := NR w5.heap.size hHeld.2.2.2.2 (by simp); refine hK.out _ _ ⟨(below_cell (below_alloc (Below.refl _ _) (.cells #[.string d0, .string d1, .string d2, .pointer none] 89)) hHeld.1), (below_cell (below_alloc (Below.refl _ _) (.cells #[.string d0, .string d1, .string d2, .pointer none] 89)) hHeld.2.1), (below_cell (below_alloc (Below.refl _ _) (.cells #[.string d0, .string d1, .string d2, .pointer none] 89)) hHeld.2.2.1), (below_cell (below_alloc (Below.refl _ _) (.cells #[.string d0, .string d1, .string d2, .pointer none] 89)) hHeld.2.2.2.1), (below_then hHeld.2.2.2.2 (below_alloc (Below.refl _ _) (.cells #[.string d0, .string d1, .string d2, .pointer none] 89)))⟩ (fun hHeld => ?_); clear hK K; refine norm_ (a' := ?_) ?_ ?_; rotate_left; (· show Act.put _ (some 16) _ = _; simp only [pn_]; rfl); refine two_ (i := 1) (j := 2) (Ni := some 13) (Nj := some 14) (tf 9 27) (tf 9 29) rfl rfl rfl rfl (by kernel_rfl) (by decide) (by decide) (fun K hK => ?_) (fun K hK => ?_)
      · skip
        refine goes_ Tryz.func32 (by kernel_rfl) rfl #[] (by rfl) rfl rfl (by simp only [List.map_toArray, List.map_cons, List.map_nil]) ?_; (with_reducible refine ((HN.out _)).mono ?_); rintro e' wy ⟨S3, rfl, by_⟩; refine ⟨_, rfl, ?_⟩
        replace k16 := below_heap by_ k16
        refine hK.out _ _ ⟨(below_cell by_ hHeld.1), (below_cell by_ hHeld.2.1), (below_cell by_ hHeld.2.2.1), (below_cell by_ hHeld.2.2.2.1), (below_then hHeld.2.2.2.2 by_)⟩ (fun hHeld => ?_); clear hK K; refine norm_ (a' := ?_) ?_ ?_; rotate_left; (· show Act.put _ (some 13) _ = _; simp only [pn_]; rfl); refine one_ (i := 2) (N := some 14) (tf 9 31) rfl rfl (by kernel_rfl) (by decide) (fun K hK => ?_); refine value_ (w1 := ?_) (v := ?_) (by rfl) rfl ?_ ?_; rotate_left 2; (· go_simp; constructor; (· rfl); (· rfl))
        replace k16 := below_heap (below_alloc (Below.refl _ _) (.map #[] 0)) k16
        refine hK.out _ _ ⟨(below_cell (below_alloc (Below.refl _ _) (.map #[] 0)) hHeld.1), (below_cell (below_alloc (Below.refl _ _) (.map #[] 0)) hHeld.2.1), (below_cell (below_alloc (Below.refl _ _) (.map #[] 0)) hHeld.2.2.1), (below_cell (below_alloc (Below.refl _ _) (.map #[] 0)) hHeld.2.2.2.1), (below_then hHeld.2.2.2.2 (below_alloc (Below.refl _ _) (.map #[] 0)))⟩ (fun hHeld => ?_); clear hK K; refine norm_ (a' := ?_) ?_ ?_; rotate_left; (· show Act.put _ (some 14) _ = _; simp only [pn_]; rfl); exact norm_ (by first | (simp only [putAll, Act.put, List.setIfInBounds_toArray, List.set_cons_zero, List.set_cons_succ]; done) | (simp only [putAll, Act.put, List.setIfInBounds_toArray, List.set_cons_zero, List.set_cons_succ]; rfl)) (hCont (S3, wy.heap.size, w5.heap.size) _ ⟨k16, hHeld⟩)
      · skip
        refine value_ (w1 := ?_) (v := ?_) (by rfl) rfl ?_ ?_; rotate_left 2; (· go_simp; constructor; (· rfl); (· rfl))
        replace k16 := below_heap (below_alloc (Below.refl _ _) (.map #[] 0)) k16
        refine hK.out _ _ ⟨(below_cell (below_alloc (Below.refl _ _) (.map #[] 0)) hHeld.1), (below_cell (below_alloc (Below.refl _ _) (.map #[] 0)) hHeld.2.1), (below_cell (below_alloc (Below.refl _ _) (.map #[] 0)) hHeld.2.2.1), (below_cell (below_alloc (Below.refl _ _) (.map #[] 0)) hHeld.2.2.2.1), (below_then hHeld.2.2.2.2 (below_alloc (Below.refl _ _) (.map #[] 0)))⟩ (fun hHeld => ?_); clear hK K; refine norm_ (a' := ?_) ?_ ?_; rotate_left; (· show Act.put _ (some 14) _ = _; simp only [pn_]; rfl); refine one_ (i := 1) (N := some 13) (tf 9 31) rfl rfl (by kernel_rfl) (by decide) (fun K hK => ?_); refine goes_ Tryz.func32 (by kernel_rfl) rfl #[] (by rfl) rfl rfl (by simp only [List.map_toArray, List.map_cons, List.map_nil]) ?_; (with_reducible refine ((HN.out _)).mono ?_); rintro e' wy ⟨S3, rfl, by_⟩; refine ⟨_, rfl, ?_⟩
        replace k16 := below_heap by_ k16
        refine hK.out _ _ ⟨(below_cell by_ hHeld.1), (below_cell by_ hHeld.2.1), (below_cell by_ hHeld.2.2.1), (below_cell by_ hHeld.2.2.2.1), (below_then hHeld.2.2.2.2 by_)⟩ (fun hHeld => ?_); clear hK K; refine norm_ (a' := ?_) ?_ ?_; rotate_left; (· show Act.put _ (some 13) _ = _; simp only [pn_]; rfl); exact norm_ (by first | (simp only [putAll, Act.put, List.setIfInBounds_toArray, List.set_cons_zero, List.set_cons_succ]; done) | (simp only [putAll, Act.put, List.setIfInBounds_toArray, List.set_cons_zero, List.set_cons_succ]; rfl)) (hCont (S3, (w5.heap.size + 1), w5.heap.size) _ ⟨k16, hHeld⟩)
  rintro ⟨S3, M3, R3⟩ w6 ⟨k16, hHeld⟩; have b6 := hHeld.2.2.2.2; refine norm_ (a' := ?_) ?_ ?_; rotate_left; (· simp only [putAll, Act.put, List.setIfInBounds_toArray, List.set_cons_zero, List.set_cons_succ]; rfl); refine pure_ (i := 5) (N := some 17) (v := ?_) (a' := ?_) (tf 9 63) rfl rfl (by kernel_rfl) (fun _ _ _ h => h) (Or.inl ⟨by rfl, ?_⟩) ?_ ?_; rotate_left; (· intro w'; go_simp; (with_reducible rfl)); rotate_left; (· simp only [pn_]; rfl); refine one_ (i := 6) (N := some 18) (tf 9 127) rfl rfl (by kernel_rfl) (by decide) (fun K hK => ?_); refine value_ (w1 := ?_) (v := ?_) (by rfl) rfl ?_ ?_; rotate_left 2; (· go_simp; constructor; (· rfl); (· rfl)); refine hK.out _ _ ⟨(below_cell (below_alloc (Below.refl _ _) (.cells #[.slice (some ⟨T, 0, none⟩) 1 c, .pointer (some ⟨S3, 0, none⟩), .map (some M3), .int .i64 0, .slice (some ⟨R3, 0, none⟩) 1 1] 95)) hHeld.1), (below_cell (below_alloc (Below.refl _ _) (.cells #[.slice (some ⟨T, 0, none⟩) 1 c, .pointer (some ⟨S3, 0, none⟩), .map (some M3), .int .i64 0, .slice (some ⟨R3, 0, none⟩) 1 1] 95)) hHeld.2.1), (below_cell (below_alloc (Below.refl _ _) (.cells #[.slice (some ⟨T, 0, none⟩) 1 c, .pointer (some ⟨S3, 0, none⟩), .map (some M3), .int .i64 0, .slice (some ⟨R3, 0, none⟩) 1 1] 95)) hHeld.2.2.1), (below_cell (below_alloc (Below.refl _ _) (.cells #[.slice (some ⟨T, 0, none⟩) 1 c, .pointer (some ⟨S3, 0, none⟩), .map (some M3), .int .i64 0, .slice (some ⟨R3, 0, none⟩) 1 1] 95)) hHeld.2.2.2.1), (below_then hHeld.2.2.2.2 (below_alloc (Below.refl _ _) (.cells #[.slice (some ⟨T, 0, none⟩) 1 c, .pointer (some ⟨S3, 0, none⟩), .map (some M3), .int .i64 0, .slice (some ⟨R3, 0, none⟩) 1 1] 95)))⟩ (fun hHeld => ?_); clear hK K; refine norm_ (a' := ?_) ?_ ?_; rotate_left; (· show Act.put _ (some 18) _ = _; simp only [pn_]; rfl); refine pure_ (i := 7) (N := some 2) (v := ?_) (a' := ?_) (tf 9 255) rfl rfl (by kernel_rfl) (fun _ _ _ h => h) (Or.inl ⟨by rfl, ?_⟩) ?_ ?_; rotate_left; (· intro w'; go_simp; (with_reducible rfl)); rotate_left; (· simp only [pn_]; rfl); refine pure_ (i := 8) (N := some 3) (v := ?_) (a' := ?_) (tf 9 511) rfl rfl (by kernel_rfl) (fun _ _ _ h => h) (Or.inl ⟨by rfl, ?_⟩) ?_ ?_; rotate_left; (· intro w'; go_simp; (with_reducible rfl)); rotate_left; (· simp only [pn_]; rfl); refine done_ (by kernel_rfl) ?_
  obtain ⟨L, hL⟩ : ∃ L, L = w6.heap.size := ⟨_, rfl⟩
  obtain ⟨w7, hw7⟩ : ∃ w7, w7 = w6.alloc (.cells #[.slice (some ⟨T, 0, none⟩) 1 c, .pointer (some ⟨S3, 0, none⟩), .map (some M3), .int .i64 0, .slice (some ⟨R3, 0, none⟩) 1 1] 95) := ⟨_, rfl⟩
  have b7 : Below w6.heap.size w6 w7 := by rw [hw7]; exact below_alloc (Below.refl _ _) _
  have c7 : w7.heap[L]? = some (.cells #[.slice (some ⟨T, 0, none⟩) 1 c, .pointer (some ⟨S3, 0, none⟩), .map (some M3), .int .i64 0, .slice (some ⟨R3, 0, none⟩) 1 1] 95 (0, 0)) := by rw [hw7, hL]; exact heap_alloc_new _ _
  have FIN : w7.cell? ⟨L, 4, none⟩ = some (.slice (some ⟨R3, 0, none⟩) 1 1) ∧ w7.heap[R3]? = some (.cells st0 89 (0, 0)) ∧ Below w.heap.size w w7 := ⟨cell_at c7 rfl, by rw [HD.out]; exact below_heap b7 k16, below_then BB.out (below_then b6 b7)⟩
  have FF := hid FIN
  rw [← hw7, ← hL]
  clear hw7 hL b7 c7 FIN k16 NR HN v0 v1 v2 v3 G0
  go_wp2
  go_ret2
  exact ⟨L, R3, rfl, FF.out⟩
theorem eqlB (w : World) (a : Option Addr) (n c n' c' : Nat) : (binOp .eql 36 (.slice a n c) (.slice none n' c')).run Tryz.prog w = .ok (.bool a.isNone) w := Lib.run_eql_slice_nil w _ _ a n c n' c' Tryz.underlying36
theorem eqlV (w : World) (a : Option Addr) (n c n' c' : Nat) : (binOp .eql 33 (.slice a n c) (.slice none n' c')).run Tryz.prog w = .ok (.bool a.isNone) w := Lib.run_eql_slice_nil w _ _ a n c n' c' Tryz.underlying33
theorem clone_nil {w : World} : Calls Tryz.prog 18 #[.slice none 0 0] w fun e w' => e = .returned (.slice none 0 0) ∧ w = w' := by
  have q := @eqlB
  go_enter Tryz.func18, Tryz.ntmps18
  go_wp2
  go_ret
  exact ⟨rfl, rfl⟩
theorem cloneV_nil {w : World} : Calls Tryz.prog 43 #[.slice none 0 0] w fun e w' => e = .returned (.slice none 0 0) ∧ w = w' := by
  have q := @eqlV
  go_enter Tryz.func43, Tryz.ntmps43
  go_wp2
  go_ret
  exact ⟨rfl, rfl⟩
theorem disk_nil {w : World} : Calls Tryz.prog 7 #[.slice none 0 0] w fun e w' => ∃ D : Nat, e = .returned (.pointer (some ⟨D, 0, none⟩)) ∧ w'.cell? ⟨D, 0, none⟩ = some (.slice none 0 0) ∧ Below w.heap.size w w' := by
  have HC := hid (clone_nil (w := w))
  go_enter Tryz.func7, Tryz.ntmps7
  go_wp2_with fail
  refine HC.out.mono ?_
  rintro e w1 ⟨rfl, rfl⟩
  clear HC
  go_wp2
  go_ret
  exact ⟨w.heap.size, rfl, by go_cell, by go_grown⟩
theorem read_nil {w : World} {D : Nat} (h : w.cell? ⟨D, 0, none⟩ = some (.slice none 0 0)) : Calls Tryz.prog 33 #[.pointer (some ⟨D, 0, none⟩)] w fun e w' => e = .returned (.slice none 0 0) ∧ w = w' := by
  have HC := hid (clone_nil (w := w))
  go_enter Tryz.func33, Tryz.ntmps33
  go_wp2_with fail
  refine HC.out.mono ?_
  rintro e w1 ⟨rfl, rfl⟩
  clear HC
  go_wp2
  go_ret
  exact ⟨rfl, rfl⟩
theorem next_nil {w : World} : Calls Tryz.prog 61 #[.slice none 0 0] w fun e w' => e = .returned (.tuple #[.slice none 0 0, .bool false]) ∧ w = w' := by
  go_enter Tryz.func61, Tryz.ntmps61
  go_wp2
  go_ret2
  exact ⟨rfl, rfl⟩
theorem scan_nil {w : World} : Calls Tryz.prog 34 #[.slice none 0 0] w fun e w' => e = .returned (.tuple #[.slice none 0 0, .int .i64 0]) ∧ w = w' := by
  have HC := hid (next_nil (w := w))
  go_enter Tryz.func34, Tryz.ntmps34
  go_wp2
  refine wp_loop_rounds 1 ?_
  rw [rounds_succ]
  go_wp2_with fail
  refine HC.out.mono ?_
  rintro e w1 ⟨rfl, rfl⟩
  clear HC
  go_wp2
  go_ret2
  exact ⟨rfl, rfl⟩
theorem wopen_nil {w : World} {D : Nat} (h : w.cell? ⟨D, 0, none⟩ = some (.slice none 0 0)) : Calls Tryz.prog 15 #[.pointer (some ⟨D, 0, none⟩)] w fun e w' => ∃ G : Nat, e = .returned (.tuple #[.pointer (some ⟨G, 0, none⟩), .slice none 0 0, .int .i64 0]) ∧ Below w.heap.size w w' := by
  have HC := hid (read_nil h)
  have HS := hid (scan_nil (w := w))
  clear h
  go_enter Tryz.func15, Tryz.ntmps15
  go_wp2_with fail
  refine HC.out.mono ?_
  rintro e w1 ⟨rfl, rfl⟩
  clear HC
  go_wp2_with fail
  refine HS.out.mono ?_
  rintro e w1 ⟨rfl, rfl⟩
  clear HS
  go_wp2
  go_ret3
  exact ⟨w.heap.size, rfl, by go_grown⟩
theorem replay_nil {w : World} {v : Value} : Calls Tryz.prog 16 #[v, .slice none 0 0] w fun e w' => e = .returned (.int .i64 0) ∧ w = w' := by
  go_enter Tryz.func16, Tryz.ntmps16
  go_wp2
  refine wp_loop_rounds 1 ?_
  rw [rounds_succ]
  go_wp2
  go_ret
  exact ⟨rfl, rfl⟩
theorem queue_new {w : World} : Calls Tryz.prog 38 #[.int .i64 4] w fun e w' => ∃ Q : Nat, e = .returned (.pointer (some ⟨Q, 0, none⟩)) ∧ Below w.heap.size w w' := by
  go_enter Tryz.func38, Tryz.ntmps38
  go_wp2
  go_ret
  exact ⟨w.heap.size, rfl, by go_grown⟩
theorem group_new {w : World} {L G : Nat} : Calls Tryz.prog 17 #[.pointer (some ⟨L, 0, none⟩), .pointer (some ⟨G, 0, none⟩)] w fun e w' => ∃ P : Nat, e = .returned (.pointer (some ⟨P, 0, none⟩)) ∧ w'.cell? ⟨P, 3, none⟩ = some (.int .u8 0) ∧ Below w.heap.size w w' := by
  have HQ := hid (queue_new (w := w))
  go_enter Tryz.func17, Tryz.ntmps17
  go_wp2_with fail
  refine HQ.out.mono ?_
  rintro e w1 ⟨Q, rfl, b1⟩
  have BB := hid b1
  clear HQ b1
  go_wp2
  go_ret
  exact ⟨w1.heap.size, rfl, by go_cell, below_then BB.out (by go_grown)⟩
end Go.Proofs.YtnidgljkbmceaaaGreatDoor
