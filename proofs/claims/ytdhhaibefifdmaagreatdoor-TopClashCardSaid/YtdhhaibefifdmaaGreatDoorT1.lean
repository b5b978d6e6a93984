import Derived.Test.YtdhhaibefifdmaaGreatDoorMore
import Derived.Handy
import Derived.Maps.OwnOps
import Derived.Maps.OwnSet
import Derived.Test.YtdhhaibefifdmaaGreatDoorMarkB
import Derived.Test.YtdhhaibefifdmaaGreatDoorT4
set_option linter.unusedVariables false
set_option linter.unusedSimpArgs false
/- What awake runs through: a table of one column is right. -/
namespace Go.Proofs.YtdhhaibefifdmaaGreatDoor
open Go.RowKit PrintLast Go.Maps

theorem named_one {w : World} {s : ByteArray} (h1 : 1 ≤ s.size) (h2 : s.size ≤ 20) : Calls Tryz.prog 108 #[.string s] w fun e w' => e = .returned (.bool true) ∧ w = w' := by
  have e1 : decide ((s.size : Int) ≥ 1) = true := by simp; omega
  have e2 : decide ((s.size : Int) ≤ 20) = true := by simp; omega
  clear h1 h2
  go_enter Tryz.func108, Tryz.ntmps108
  go_wp2
  go_ret
  exact ⟨rfl, rfl⟩
theorem skey : Keyed Tryz.prog 9 := string_keyed Tryz.underlying9
theorem zeroBool (w : World) : (zeroValue 4).run Tryz.prog w = .ok (.bool false) w := by kernel_rfl
theorem plainElem_bool_inv {H : Type} {P : Program} {e : TypeId} (he : P.underlying e = some .bool) {v : Value} {z : DataW H × List MemPlace} (h : plainElem P e v = some z) : ∃ a, v = .bool a ∧ z = (.lit (.bool a), []) := by
  unfold plainElem at h
  rw [he] at h
  cases v <;> simp at h
  exact ⟨_, rfl, h.symm⟩
set_option maxRecDepth 100000 in
theorem look_empty {w : World} {b : Nat} {s : ByteArray} (h : w.ownsMap Tryz.prog 9 (plainElem (H := Unit) Tryz.prog 4) b 0 (.map [])) (hs : s.size ≤ maxLen) :
    (Instr.lookup 218 (.map (some b)) (.string s) false).run Tryz.prog w = .ok (.bool false) w := by
  obtain ⟨v, ps, hrun, hv⟩ := h.lookup skey Tryz.underlying218 (zeroBool w) (plainElem_bool Tryz.underlying4 false) (WideMaps.keyOf_string_mk Tryz.underlying9 hs)
  rw [hrun]
  have e : DataW.atKey (H := Unit) (.map []) (.string s.data.toList) (.lit (.bool false)) = .lit (.bool false) := rfl
  rw [e] at hv
  obtain ⟨a, rfl, hz⟩ := plainElem_bool_inv Tryz.underlying4 hv
  have h2 := congrArg Prod.fst hz
  injection h2 with h3
  injection h3 with h4
  rw [h4]
set_option maxRecDepth 100000 in
theorem cname_any {w : World} {s : ByteArray} {kd : Int} {nl : Bool} : Calls Tryz.prog 110 #[.agg #[.string s, .int .u8 kd, .bool nl]] w fun e w' => e = .returned (.string s) ∧ Below w.heap.size w w' := by
  go_enter Tryz.func110, Tryz.ntmps110
  go_wp2
  go_ret
  exact ⟨rfl, by go_grown⟩
set_option maxRecDepth 100000 in
set_option maxHeartbeats 1000000 in
theorem unlikeC_one {w : World} {C : Nat} {s : ByteArray} {kd : Int} {nl : Bool} (h1 : 1 ≤ s.size) (h2 : s.size ≤ 20) (c0 : w.cell? ⟨C, 0, none⟩ = some (.string s)) (c1 : w.cell? ⟨C, 1, none⟩ = some (.int .u8 kd)) (c2 : w.cell? ⟨C, 2, none⟩ = some (.bool nl)) {c : Nat} :
    Calls Tryz.prog 109 #[.slice (some ⟨C, 0, none⟩) 1 c, .func (.func 110) #[] #[]] w fun e w' => e = .returned (.bool true) ∧ Below w.heap.size w w' := by
  have hs9 : s.size ≤ maxLen := by unfold maxLen; omega
  have M0 := World.ownsMap_made (H := Unit) w Tryz.prog 9 (plainElem (H := Unit) Tryz.prog 4)
  obtain ⟨b, hb⟩ : ∃ b, b = w.heap.size := ⟨_, rfl⟩
  rw [← hb] at M0
  have B0 := below_alloc (Below.refl _ w) (.map #[] 0)
  have HB := hid hb
  have MM := hid M0
  have BB := hid B0
  have d0 := below_cell B0 c0
  have d1 := below_cell B0 c1
  have d2 := below_cell B0 c2
  clear M0 hb B0 c0 c1 c2
  have hmm := @run_makeMap Tryz.prog
  go_enter Tryz.func109, Tryz.ntmps109
  go_wp2
  rw [← HB.out]
  generalize w.alloc (.map #[] 0) = w1 at *
  refine wp_loop_rounds 2 ?_
  rw [rounds_succ]
  have HC := hid (cname_any (w := w1.alloc (.cells #[.string s, .int .u8 kd, .bool nl] 79)) (s := s) (kd := kd) (nl := nl))
  have AL := hid (below_alloc (Below.refl _ w1) (.cells #[.string s, .int .u8 kd, .bool nl] 79))
  go_wp2_with fail
  refine HC.out.mono ?_
  rintro e w2 ⟨rfl, b2⟩
  have B2 := hid (below_then AL.out b2)
  clear HC AL b2 d0 d1 d2
  have HN := hid (named_one (w := w2) h1 h2)
  go_wp2_with fail
  refine HN.out.mono ?_
  rintro e w3 ⟨rfl, rfl⟩
  clear HN
  have M2 := hid (MM.out.kept (row := none) ⟨B2.out.os, B2.out.tape, B2.out.output, B2.out.size, fun k hk _ => B2.out.block k hk⟩ (by simp))
  have lk := look_empty M2.out hs9
  have HK := hid (WideMaps.keyOf_string_mk Tryz.underlying9 hs9)
  go_wp2_with (first
    | (at_mapUpdate; refine wpList_mapUpdate_own _ rfl _ _ _ 218 rfl 9 4 skey Tryz.underlying218 _ b 0 _ rfl M2.out (by unfold maxLen; omega) _ _ _ rfl rfl HK.out _ [] (plainElem_bool Tryz.underlying4 true) ?_; intro w4 hown1 hgrow1)
    | go_in)
  clear lk
  rw [rounds_succ]
  go_wp2
  go_ret
  refine ⟨rfl, ?_⟩
  have B3 := below_then BB.out B2.out
  exact B3.grown hgrow1 B3.size (fun j hj => by cases hj; rw [HB.out]; exact Nat.le_refl _)
set_option maxRecDepth 100000 in
theorem tname_any {w : World} {s : ByteArray} {A : Option Addr} {n m : Nat} {ks : Int} : Calls Tryz.prog 72 #[.agg #[.string s, .slice A n m, .int .i64 ks]] w fun e w' => e = .returned (.string s) ∧ Below w.heap.size w w' := by
  go_enter Tryz.func72, Tryz.ntmps72
  go_wp2
  go_ret
  exact ⟨rfl, by go_grown⟩
set_option maxRecDepth 100000 in
set_option maxHeartbeats 1000000 in
theorem unlikeT_one {w : World} {C : Nat} {s : ByteArray} {A : Option Addr} {n m : Nat} {ks : Int} (h1 : 1 ≤ s.size) (h2 : s.size ≤ 20) (c0 : w.cell? ⟨C, 0, none⟩ = some (.string s)) (c1 : w.cell? ⟨C, 1, none⟩ = some (.slice A n m)) (c2 : w.cell? ⟨C, 2, none⟩ = some (.int .i64 ks)) {c : Nat} :
    Calls Tryz.prog 71 #[.slice (some ⟨C, 0, none⟩) 1 c, .func (.func 72) #[] #[]] w fun e w' => e = .returned (.bool true) ∧ Below w.heap.size w w' := by
  have hs9 : s.size ≤ maxLen := by unfold maxLen; omega
  have M0 := World.ownsMap_made (H := Unit) w Tryz.prog 9 (plainElem (H := Unit) Tryz.prog 4)
  obtain ⟨b, hb⟩ : ∃ b, b = w.heap.size := ⟨_, rfl⟩
  rw [← hb] at M0
  have B0 := below_alloc (Below.refl _ w) (.map #[] 0)
  have HB := hid hb
  have MM := hid M0
  have BB := hid B0
  have d0 := below_cell B0 c0
  have d1 := below_cell B0 c1
  have d2 := below_cell B0 c2
  clear M0 hb B0 c0 c1 c2
  have hmm := @run_makeMap Tryz.prog
  go_enter Tryz.func71, Tryz.ntmps71
  go_wp2
  rw [← HB.out]
  generalize w.alloc (.map #[] 0) = w1 at *
  refine wp_loop_rounds 2 ?_
  rw [rounds_succ]
  have HC := hid (tname_any (w := w1.alloc (.cells #[.string s, .slice A n m, .int .i64 ks] 82)) (s := s) (A := A) (n := n) (m := m) (ks := ks))
  have AL := hid (below_alloc (Below.refl _ w1) (.cells #[.string s, .slice A n m, .int .i64 ks] 82))
  go_wp2_with fail
  refine HC.out.mono ?_
  rintro e w2 ⟨rfl, b2⟩
  have B2 := hid (below_then AL.out b2)
  clear HC AL b2 d0 d1 d2
  have HN := hid (named_one (w := w2) h1 h2)
  go_wp2_with fail
  refine HN.out.mono ?_
  rintro e w3 ⟨rfl, rfl⟩
  clear HN
  have M2 := hid (MM.out.kept (row := none) ⟨B2.out.os, B2.out.tape, B2.out.output, B2.out.size, fun k hk _ => B2.out.block k hk⟩ (by simp))
  have lk := look_empty M2.out hs9
  have HK := hid (WideMaps.keyOf_string_mk Tryz.underlying9 hs9)
  go_wp2_with (first
    | (at_mapUpdate; refine wpList_mapUpdate_own _ rfl _ _ _ 218 rfl 9 4 skey Tryz.underlying218 _ b 0 _ rfl M2.out (by unfold maxLen; omega) _ _ _ rfl rfl HK.out _ [] (plainElem_bool Tryz.underlying4 true) ?_; intro w4 hown1 hgrow1)
    | go_in)
  clear lk
  rw [rounds_succ]
  go_wp2
  go_ret
  refine ⟨rfl, ?_⟩
  have B3 := below_then BB.out B2.out
  exact B3.grown hgrow1 B3.size (fun j hj => by cases hj; rw [HB.out]; exact Nat.le_refl _)
/-- A table of one column. -/
structure TabAt (w : World) (T C : Nat) : Prop where
  name : w.cell? ⟨T, 0, none⟩ = some (.string ⟨#[116, 48]⟩)
  cols : w.cell? ⟨T, 1, none⟩ = some (.slice (some ⟨C, 0, none⟩) 1 1)
  keys : w.cell? ⟨T, 2, none⟩ = some (.int .i64 1)
  cname : w.cell? ⟨C, 0, none⟩ = some (.string ⟨#[97]⟩)
  ckind : w.cell? ⟨C, 1, none⟩ = some (.int .u8 1)
  cnull : w.cell? ⟨C, 2, none⟩ = some (.bool false)
theorem TabAt.below {w w' : World} {T C : Nat} (h : TabAt w T C) (hb : Below w.heap.size w w') : TabAt w' T C :=
  ⟨below_cell hb h.name, below_cell hb h.cols, below_cell hb h.keys, below_cell hb h.cname, below_cell hb h.ckind, below_cell hb h.cnull⟩
set_option maxRecDepth 100000 in
set_option maxHeartbeats 1000000 in
theorem columns_one {w : World} {T C : Nat} (h : TabAt w T C) : Calls Tryz.prog 73 #[.agg #[.string ⟨#[116, 48]⟩, .slice (some ⟨C, 0, none⟩) 1 1, .int .i64 1]] w fun e w' => e = .returned (.bool true) ∧ Below w.heap.size w w' := by
  have HH := hid h
  have A1 := hid (below_alloc (Below.refl _ w) (.cells #[.string ⟨#[116, 48]⟩, .slice (some ⟨C, 0, none⟩) 1 1, .int .i64 1] 82))
  have k0 := (h.below A1.out).cname
  have k1 := (h.below A1.out).ckind
  have k2 := (h.below A1.out).cnull
  clear h
  go_enter Tryz.func73, Tryz.ntmps73
  go_wp2
  refine wp_loop_rounds 2 ?_
  rw [rounds_succ]
  go_wp2
  rw [rounds_succ]
  obtain ⟨wz, hwz⟩ : ∃ wz, wz = (w.alloc (.cells #[.string ⟨#[116, 48]⟩, .slice (some ⟨C, 0, none⟩) 1 1, .int .i64 1] 82)).alloc (.cells #[.string ⟨#[97]⟩, .int .u8 1, .bool false] 79) := ⟨_, rfl⟩
  have A2 := hid (show Below w.heap.size w wz by rw [hwz]; exact below_alloc A1.out _)
  have H2 := HH.out.below A2.out
  have HU := hid (unlikeC_one (w := wz) (C := C) (s := ⟨#[97]⟩) (kd := 1) (nl := false) (c := 1) (by decide) (by decide) H2.cname H2.ckind H2.cnull)
  rw [hwz] at HU
  clear H2 k0 k1 k2
  go_wp2_with fail
  refine HU.out.mono ?_
  rintro e w2 ⟨rfl, b2⟩
  rw [← hwz] at b2
  have BF := below_then A2.out b2
  clear hwz
  go_wp2
  go_ret
  exact ⟨rfl, BF⟩
set_option maxRecDepth 100000 in
set_option maxHeartbeats 1000000 in
theorem right_one {w : World} {T C c : Nat} (h : TabAt w T C) : Calls Tryz.prog 43 #[.slice (some ⟨T, 0, none⟩) 1 c] w fun e w' => e = .returned (.bool true) ∧ Below w.heap.size w w' := by
  have HH := hid h
  have HU := hid (unlikeT_one (w := w) (C := T) (s := ⟨#[116, 48]⟩) (c := c) (by decide) (by decide) h.name h.cols h.keys)
  clear h
  go_enter Tryz.func43, Tryz.ntmps43
  go_wp2_with fail
  refine HU.out.mono ?_
  rintro e w1 ⟨rfl, b1⟩
  clear HU
  have H1 := hid (HH.out.below b1)
  have k0 := H1.out.name
  have k1 := H1.out.cols
  have k2 := H1.out.keys
  obtain ⟨wz, hwz⟩ : ∃ wz, wz = w1.alloc (.cells #[.string ⟨#[116, 48]⟩, .slice (some ⟨C, 0, none⟩) 1 1, .int .i64 1] 82) := ⟨_, rfl⟩
  have A2 := hid (show Below w1.heap.size w1 wz by rw [hwz]; exact below_alloc (Below.refl _ w1) _)
  have BB := hid (below_then b1 A2.out)
  have HC := hid (columns_one (H1.out.below A2.out))
  rw [hwz] at HC
  clear b1
  go_wp2
  refine wp_loop_rounds 2 ?_
  rw [rounds_succ]
  go_wp2_with fail
  refine HC.out.mono ?_
  rintro e w2 ⟨rfl, b2⟩
  rw [← hwz] at b2
  have BF := below_then BB.out b2
  clear hwz k0 k1 k2 HC
  go_wp2
  rw [rounds_succ]
  go_wp2
  go_ret
  exact ⟨rfl, BF⟩
end Go.Proofs.YtdhhaibefifdmaaGreatDoor

/- What awake runs through: the reference's tables of no form. -/
namespace Go.Proofs.YtdhhaibefifdmaaGreatDoor
open Go.RowKit PrintLast

theorem conv_lit {w : World} (l : List UInt8) (hl : l.length ≤ 1000) {n : Nat} (hn : l.length = n) : (convert 22 9 (.slice (some ⟨w.heap.size, 0, none⟩) n n)).run Tryz.prog (w.alloc (.cells (bytesV l).toArray 5)) = .ok (.string (strB l)) (w.alloc (.cells (bytesV l).toArray 5)) := by
  have h := lits_bsa w l hl
  subst hn
  exact conv_any rfl h
theorem last_cell {w0 : World} {cs z : Array Value} {t : TypeId} {g i : Nat} {v : Value} (hg : g = w0.heap.size) (hv : cs[i]? = some v) : (w0.alloc (.cells (cs ++ z) t)).cell? ⟨g, i, none⟩ = some v := by
  subst hg
  have hi : i < cs.size := (Array.getElem?_eq_some_iff.1 hv).1
  refine cell_at (heap_alloc_new w0 (.cells (cs ++ z) t)) ?_
  rw [Array.getElem?_append_left hi]
  exact hv
set_option maxRecDepth 100000 in
set_option maxHeartbeats 1000000 in
theorem tables_nil {w : World} : Calls Tryz.prog 10 #[.slice none 0 0] w fun e w' => ∃ T C c, e = .returned (.slice (some ⟨T, 0, none⟩) 1 c) ∧ TabAt w' T C ∧ Below w.heap.size w w' := by
  have cv := conv_lit (w := w.alloc (.cells #[.slice none 0 0, .int .u8 0] 77)) [116, 48] (by decide) (n := 2) rfl
  rw [show (w.alloc (.cells #[.slice none 0 0, .int .u8 0] 77)).heap.size = w.heap.size + 1 by simp, show (bytesV [116, 48]).toArray = #[.int .u8 116, .int .u8 48] from rfl, show strB [116, 48] = ⟨#[116, 48]⟩ from rfl] at cv
  go_enter Tryz.func10, Tryz.ntmps10
  go_wp2
  refine wp_loop_rounds 2 ?_
  rw [rounds_succ]
  go_wp2
  refine wp_loop_rounds 1 ?_
  rw [rounds_succ]
  go_wp2
  refine wp_loop_rounds 1 ?_
  rw [rounds_succ]
  go_wp2
  rw [rounds_succ]
  go_wp2
  go_ret
  refine ⟨w.heap.size + 1 + 1 + 1 + 1 + 1, w.heap.size + 1 + 1, _, rfl, ?_, by go_grown⟩
  have e : ∀ (W : World) a, W.drew.cell? a = W.cell? a := fun _ _ => rfl
  refine ⟨?_, ?_, ?_, by go_cell, by go_cell, by go_cell⟩
  · rw [e]; exact last_cell (by simp) (by rfl)
  · rw [e]; exact last_cell (by simp) (by rfl)
  · rw [e]; exact last_cell (by simp) (by rfl)
end Go.Proofs.YtdhhaibefifdmaaGreatDoor

/- What awake runs through: the first digest. -/
namespace Go.Proofs.YtdhhaibefifdmaaGreatDoor
open Go.RowKit PrintLast

/-- The first digest. -/
def first0 : ByteArray := dig (linkB (sum256 [0]) (sum256 [0]) (sum256 []))
theorem first_any {w : World} (hT : Table w) : Calls Tryz.prog 44 #[] w fun e w' => e = .returned (.string first0) ∧ Below w.heap.size w w' := by
  have TT := hid hT
  clear hT
  go_enter Tryz.func44, Tryz.ntmps44
  have H1 := hid (empty_any TT.out)
  go_wp2_with fail
  refine H1.out.mono ?_
  rintro e w1 ⟨rfl, b1⟩
  have H2 := hid (empty_any (TT.out.below b1))
  have BB := hid b1
  clear H1 b1
  go_wp2_with fail
  refine H2.out.mono ?_
  rintro e w2 ⟨rfl, b2⟩
  replace BB := hid (below_then BB.out b2)
  have H3 := hid (link_any (TT.out.below BB.out) (a := dig [0]) (b := dig [0]) (by rw [dig_size]; omega) (by rw [dig_size]; omega) (by simp) (BSA.nil w2))
  clear H2 b2
  go_wp2_with fail
  refine H3.out.mono ?_
  rintro e w3 ⟨rfl, b3⟩
  have BF := below_then BB.out b3
  simp only [dig_list]
  go_wp2
  go_ret
  exact ⟨rfl, BF⟩
theorem rfirst_any {w : World} : Calls Tryz.prog 13 #[] w fun e w' => e = .returned (.string first0) ∧ Below w.heap.size w w' := by
  go_enter Tryz.func13, Tryz.ntmps13
  have H1 := hid (rempty_any (w := w))
  go_wp2_with fail
  refine H1.out.mono ?_
  rintro e w1 ⟨rfl, b1⟩
  have H2 := hid (rempty_any (w := w1))
  have BB := hid b1
  clear H1 b1
  go_wp2_with fail
  refine H2.out.mono ?_
  rintro e w2 ⟨rfl, b2⟩
  replace BB := hid (below_then BB.out b2)
  have H3 := hid (rlink_any (w := w2) (a := dig [0]) (b := dig [0]) (by rw [dig_size]; omega) (by rw [dig_size]; omega) (by simp) (BSA.nil w2))
  clear H2 b2
  go_wp2_with fail
  refine H3.out.mono ?_
  rintro e w3 ⟨rfl, b3⟩
  have BF := below_then BB.out b3
  simp only [dig_list]
  go_wp2
  go_ret
  exact ⟨rfl, BF⟩

end Go.Proofs.YtdhhaibefifdmaaGreatDoor

/- What awake runs through: a ledger without rows. -/
namespace Go.Proofs.YtdhhaibefifdmaaGreatDoor
open Go.RowKit PrintLast

theorem store_new {w : World} : Calls Tryz.prog 46 #[] w fun e w' => ∃ S, e = .returned (.pointer (some ⟨S, 0, none⟩)) ∧ Below w.heap.size w w' := by
  have hmm := @run_makeMap Tryz.prog
  go_enter Tryz.func46, Tryz.ntmps46
  go_wp2
  go_ret
  exact ⟨_, rfl, by go_grown⟩
/-- The states' row. -/
def st0 : Array Value := #[.string first0, .string (dig [0]), .string (dig []), .pointer none]
set_option maxRecDepth 100000 in
set_option maxHeartbeats 3200000 in
theorem ledger_new {w : World} (hT : Table w) {T C c : Nat} (h : TabAt w T C) : Calls Tryz.prog 20 #[.slice (some ⟨T, 0, none⟩) 1 c] w fun e w' => ∃ L R : Nat, e = .returned (.tuple #[.pointer (some ⟨L, 0, none⟩), .int .i64 0]) ∧
    w'.cell? ⟨L, 4, none⟩ = some (.slice (some ⟨R, 0, none⟩) 1 1) ∧ w'.heap[R]? = some (.cells st0 112 (0, 0)) ∧ Below w.heap.size w w' := by
  have TT := hid hT
  have HR := hid (right_one (c := c) h)
  clear hT h
  have hmm := @run_makeMap Tryz.prog
  go_enter Tryz.func20, Tryz.ntmps20
  go_wp2_with fail
  refine HR.out.mono ?_
  rintro e w1 ⟨rfl, b1⟩
  have BB := hid b1
  have HF := hid (first_any (TT.out.below b1))
  clear HR b1
  go_wp2_with fail
  refine HF.out.mono ?_
  rintro e w2 ⟨rfl, b2⟩
  replace BB := hid (below_then BB.out b2)
  have HE := hid (empty_any (TT.out.below BB.out))
  clear HF b2
  go_wp2_with fail
  refine HE.out.mono ?_
  rintro e w3 ⟨rfl, b3⟩
  replace BB := hid (below_then BB.out b3)
  have HS := hid (sum_dig (n := 0) rfl (TT.out.below BB.out) (BSA.nil w3) (by simp))
  clear HE b3
  go_wp2_with fail
  refine HS.out.mono ?_
  rintro e w4 ⟨rfl, b4⟩
  replace BB := hid (below_then BB.out b4)
  clear HS b4
  obtain ⟨d0, hd0⟩ : ∃ d, d = first0 := ⟨_, rfl⟩
  obtain ⟨d1, hd1⟩ : ∃ d, d = dig [0] := ⟨_, rfl⟩
  obtain ⟨d2, hd2⟩ : ∃ d, d = dig [] := ⟨_, rfl⟩
  rw [← hd0, ← hd1, ← hd2]
  have HD := hid (show st0 = #[.string d0, .string d1, .string d2, .pointer none] by rw [hd0, hd1, hd2]; rfl)
  clear hd0 hd1 hd2
  obtain ⟨g, hg⟩ : ∃ g, g = w4.heap.size := ⟨_, rfl⟩
  have G0 := heap_alloc_new w4 (.cells #[.string d0, .string d1, .string d2, .pointer none] 112)
  have al := below_alloc (Below.refl _ w4) (.cells #[.string d0, .string d1, .string d2, .pointer none] 112)
  rw [← hg] at G0
  have HG := hid hg
  replace BB := hid (below_then BB.out al)
  clear al hg
  go_upto_region 4 with fail
  rw [← HG.out]
  generalize w4.alloc (.cells #[.string d0, .string d1, .string d2, .pointer none] 112) = w5 at *
  obtain ⟨v0, v1, v2, v3, -, -, -, -⟩ := four G0
  have HN : Hid (∀ w' : World, Calls Tryz.prog 46 #[] w' fun e w'' => ∃ S, e = .returned (.pointer (some ⟨S, 0, none⟩)) ∧ Below w'.heap.size w' w'') := hid (fun w' => store_new)
  have NR : ∀ {w1 : World} (g : Nat), Below w5.heap.size w5 w1 → w1.heap.size = g → (w1.alloc (.cells #[.string d0, .string d1, .string d2, .pointer none] 112)).heap[g]? = some (.cells #[.string d0, .string d1, .string d2, .pointer none] 112 (0, 0)) := fun g _ e => by subst e; exact heap_alloc_new _ _
  go_wp2
  refine start_ (n := 9) (S := fun w' => w'.cell? ⟨g, 0, none⟩ = some (.string d0) ∧ w'.cell? ⟨g, 1, none⟩ = some (.string d1) ∧ w'.cell? ⟨g, 2, none⟩ = some (.string d2) ∧ w'.cell? ⟨g, 3, none⟩ = some (.pointer none) ∧ Below w5.heap.size w5 w') (ds := []) #[false, false, false, false, false, false, false, false, false] (by kernel_rfl) rfl rfl ⟨v0, v1, v2, v3, (Below.refl w5.heap.size w5).drew⟩ (fun hHeld => ?_)
  refine pure_ (i := 0) (N := some 12) (v := ?_) (a' := ?_) #[true, false, false, false, false, false, false, false, false] rfl rfl (by kernel_rfl) (fun _ _ _ h => h) (Or.inl ⟨by rfl, ?_⟩) ?_ ?_
  rotate_left
  · intro w'
    go_simp
    with_reducible rfl
  rotate_left
  · simp only [Act.put, List.setIfInBounds_toArray, List.set_cons_zero, List.set_cons_succ, i64_w, i32_w]
    rfl
  refine take_ (i := 3) (N := some 15) (v := ?_) (a' := ?_) #[true, false, false, true, false, false, false, false, false] rfl rfl (by kernel_rfl) (fun _ _ _ h => h) (Or.inl ⟨by rfl, ?_⟩) hHeld ?_ ?_
  rotate_left
  · rintro w' ⟨s0, s1, s2, s3, s4⟩
    go_simp
    with_reducible rfl
  rotate_left
  · simp only [Act.put, List.setIfInBounds_toArray, List.set_cons_zero, List.set_cons_succ, i64_w, i32_w]
    rfl
  refine join_ (σ := Nat × Nat × Nat) 4 #[true, true, true, true, true, false, false, false, false] (fun s => [(13, .pointer (some ⟨s.1, 0, none⟩)), (14, .map (some s.2.1)), (16, .slice (some ⟨s.2.2, 0, none⟩) 1 1)]) (fun s w' => w'.heap[s.2.2]? = some (.cells #[.string d0, .string d1, .string d2, .pointer none] 112 (0, 0)) ∧ w'.cell? ⟨g, 0, none⟩ = some (.string d0) ∧ w'.cell? ⟨g, 1, none⟩ = some (.string d1) ∧ w'.cell? ⟨g, 2, none⟩ = some (.string d2) ∧ w'.cell? ⟨g, 3, none⟩ = some (.pointer none) ∧ Below w5.heap.size w5 w') ?_ ?_
  rotate_left
  · intro hCont
    refine three_ (i := 1) (j := 2) (k := 4) (Ni := some 13) (Nj := some 14) (Nk := some 16) #[true, true, false, true, false, false, false, false, false] #[true, false, true, true, false, false, false, false, false] #[true, false, false, true, true, false, false, false, false] rfl rfl rfl rfl rfl rfl (by kernel_rfl) (by decide) (by decide) (by decide) (fun K hK => ?_) (fun K hK => ?_) (fun K hK => ?_)
    · skip
      refine goes_ Tryz.func46 (by kernel_rfl) rfl #[] (by rfl) rfl rfl (by simp only [List.map_toArray, List.map_cons, List.map_nil]) ?_
      with_reducible refine ((HN.out _)).mono ?_
      rintro e' wy ⟨S3, rfl, by_⟩
      refine ⟨_, rfl, ?_⟩
      refine hK.out _ _ ⟨(below_cell by_ hHeld.1), (below_cell by_ hHeld.2.1), (below_cell by_ hHeld.2.2.1), (below_cell by_ hHeld.2.2.2.1), (below_then hHeld.2.2.2.2 by_)⟩ (fun hHeld => ?_)
      clear hK K
      refine norm_ (a' := ?_) ?_ ?_
      rotate_left
      · show Act.put _ (some 13) _ = _
        simp only [Act.put, List.setIfInBounds_toArray, List.set_cons_zero, List.set_cons_succ, i64_w, i32_w]
        rfl
      refine two_ (i := 2) (j := 4) (Ni := some 14) (Nj := some 16) #[true, true, true, true, false, false, false, false, false] #[true, true, false, true, true, false, false, false, false] rfl rfl rfl rfl (by kernel_rfl) (by decide) (by decide) (fun K hK => ?_) (fun K hK => ?_)
      · skip
        refine value_ (w1 := ?_) (v := ?_) (by rfl) rfl ?_ ?_
        rotate_left 2
        · go_simp
          constructor
          · rfl
          · rfl
        refine hK.out _ _ ⟨(below_cell (below_alloc (Below.refl _ _) (.map #[] 0)) hHeld.1), (below_cell (below_alloc (Below.refl _ _) (.map #[] 0)) hHeld.2.1), (below_cell (below_alloc (Below.refl _ _) (.map #[] 0)) hHeld.2.2.1), (below_cell (below_alloc (Below.refl _ _) (.map #[] 0)) hHeld.2.2.2.1), (below_then hHeld.2.2.2.2 (below_alloc (Below.refl _ _) (.map #[] 0)))⟩ (fun hHeld => ?_)
        clear hK K
        refine norm_ (a' := ?_) ?_ ?_
        rotate_left
        · show Act.put _ (some 14) _ = _
          simp only [Act.put, List.setIfInBounds_toArray, List.set_cons_zero, List.set_cons_succ, i64_w, i32_w]
          rfl
        refine one_ (i := 4) (N := some 16) #[true, true, true, true, true, false, false, false, false] rfl rfl (by kernel_rfl) (by decide) (fun K hK => ?_)
        refine value_ (w1 := ?_) (v := ?_) (by rfl) rfl ?_ ?_
        rotate_left 2
        · go_simp
          constructor
          · rfl
          · rfl
        have k16 := NR (wy.heap.size + 1) hHeld.2.2.2.2 (by simp)
        refine hK.out _ _ ⟨(below_cell (below_alloc (Below.refl _ _) (.cells #[.string d0, .string d1, .string d2, .pointer none] 112)) hHeld.1), (below_cell (below_alloc (Below.refl _ _) (.cells #[.string d0, .string d1, .string d2, .pointer none] 112)) hHeld.2.1), (below_cell (below_alloc (Below.refl _ _) (.cells #[.string d0, .string d1, .string d2, .pointer none] 112)) hHeld.2.2.1), (below_cell (below_alloc (Below.refl _ _) (.cells #[.string d0, .string d1, .string d2, .pointer none] 112)) hHeld.2.2.2.1), (below_then hHeld.2.2.2.2 (below_alloc (Below.refl _ _) (.cells #[.string d0, .string d1, .string d2, .pointer none] 112)))⟩ (fun hHeld => ?_)
        clear hK K
        refine norm_ (a' := ?_) ?_ ?_
        rotate_left
        · show Act.put _ (some 16) _ = _
          simp only [Act.put, List.setIfInBounds_toArray, List.set_cons_zero, List.set_cons_succ, i64_w, i32_w]
          rfl
        exact norm_ (by simp only [putAll, Act.put, List.setIfInBounds_toArray, List.set_cons_zero, List.set_cons_succ]) (hCont (S3, wy.heap.size, (wy.heap.size + 1)) _ ⟨k16, hHeld⟩)
      · skip
        refine value_ (w1 := ?_) (v := ?_) (by rfl) rfl ?_ ?_
        rotate_left 2
        · go_simp
          constructor
          · rfl
          · rfl
        have k16 := NR wy.heap.size hHeld.2.2.2.2 (by simp)
        refine hK.out _ _ ⟨(below_cell (below_alloc (Below.refl _ _) (.cells #[.string d0, .string d1, .string d2, .pointer none] 112)) hHeld.1), (below_cell (below_alloc (Below.refl _ _) (.cells #[.string d0, .string d1, .string d2, .pointer none] 112)) hHeld.2.1), (below_cell (below_alloc (Below.refl _ _) (.cells #[.string d0, .string d1, .string d2, .pointer none] 112)) hHeld.2.2.1), (below_cell (below_alloc (Below.refl _ _) (.cells #[.string d0, .string d1, .string d2, .pointer none] 112)) hHeld.2.2.2.1), (below_then hHeld.2.2.2.2 (below_alloc (Below.refl _ _) (.cells #[.string d0, .string d1, .string d2, .pointer none] 112)))⟩ (fun hHeld => ?_)
        clear hK K
        refine norm_ (a' := ?_) ?_ ?_
        rotate_left
        · show Act.put _ (some 16) _ = _
          simp only [Act.put, List.setIfInBounds_toArray, List.set_cons_zero, List.set_cons_succ, i64_w, i32_w]
          rfl
        refine one_ (i := 2) (N := some 14) #[true, true, true, true, true, false, false, false, false] rfl rfl (by kernel_rfl) (by decide) (fun K hK => ?_)
        refine value_ (w1 := ?_) (v := ?_) (by rfl) rfl ?_ ?_
        rotate_left 2
        · go_simp
          constructor
          · rfl
          · rfl
        replace k16 := below_heap (below_alloc (Below.refl _ _) (.map #[] 0)) k16
        refine hK.out _ _ ⟨(below_cell (below_alloc (Below.refl _ _) (.map #[] 0)) hHeld.1), (below_cell (below_alloc (Below.refl _ _) (.map #[] 0)) hHeld.2.1), (below_cell (below_alloc (Below.refl _ _) (.map #[] 0)) hHeld.2.2.1), (below_cell (below_alloc (Below.refl _ _) (.map #[] 0)) hHeld.2.2.2.1), (below_then hHeld.2.2.2.2 (below_alloc (Below.refl _ _) (.map #[] 0)))⟩ (fun hHeld => ?_)
        clear hK K
        refine norm_ (a' := ?_) ?_ ?_
        rotate_left
        · show Act.put _ (some 14) _ = _
          simp only [Act.put, List.setIfInBounds_toArray, List.set_cons_zero, List.set_cons_succ, i64_w, i32_w]
          rfl
        exact norm_ (by simp only [putAll, Act.put, List.setIfInBounds_toArray, List.set_cons_zero, List.set_cons_succ]) (hCont (S3, (wy.heap.size + 1), wy.heap.size) _ ⟨k16, hHeld⟩)
    · skip
      refine value_ (w1 := ?_) (v := ?_) (by rfl) rfl ?_ ?_
      rotate_left 2
      · go_simp
        constructor
        · rfl
        · rfl
      refine hK.out _ _ ⟨(below_cell (below_alloc (Below.refl _ _) (.map #[] 0)) hHeld.1), (below_cell (below_alloc (Below.refl _ _) (.map #[] 0)) hHeld.2.1), (below_cell (below_alloc (Below.refl _ _) (.map #[] 0)) hHeld.2.2.1), (below_cell (below_alloc (Below.refl _ _) (.map #[] 0)) hHeld.2.2.2.1), (below_then hHeld.2.2.2.2 (below_alloc (Below.refl _ _) (.map #[] 0)))⟩ (fun hHeld => ?_)
      clear hK K
      refine norm_ (a' := ?_) ?_ ?_
      rotate_left
      · show Act.put _ (some 14) _ = _
        simp only [Act.put, List.setIfInBounds_toArray, List.set_cons_zero, List.set_cons_succ, i64_w, i32_w]
        rfl
      refine two_ (i := 1) (j := 4) (Ni := some 13) (Nj := some 16) #[true, true, true, true, false, false, false, false, false] #[true, false, true, true, true, false, false, false, false] rfl rfl rfl rfl (by kernel_rfl) (by decide) (by decide) (fun K hK => ?_) (fun K hK => ?_)
      · skip
        refine goes_ Tryz.func46 (by kernel_rfl) rfl #[] (by rfl) rfl rfl (by simp only [List.map_toArray, List.map_cons, List.map_nil]) ?_
        with_reducible refine ((HN.out _)).mono ?_
        rintro e' wy ⟨S3, rfl, by_⟩
        refine ⟨_, rfl, ?_⟩
        refine hK.out _ _ ⟨(below_cell by_ hHeld.1), (below_cell by_ hHeld.2.1), (below_cell by_ hHeld.2.2.1), (below_cell by_ hHeld.2.2.2.1), (below_then hHeld.2.2.2.2 by_)⟩ (fun hHeld => ?_)
        clear hK K
        refine norm_ (a' := ?_) ?_ ?_
        rotate_left
        · show Act.put _ (some 13) _ = _
          simp only [Act.put, List.setIfInBounds_toArray, List.set_cons_zero, List.set_cons_succ, i64_w, i32_w]
          rfl
        refine one_ (i := 4) (N := some 16) #[true, true, true, true, true, false, false, false, false] rfl rfl (by kernel_rfl) (by decide) (fun K hK => ?_)
        refine value_ (w1 := ?_) (v := ?_) (by rfl) rfl ?_ ?_
        rotate_left 2
        · go_simp
          constructor
          · rfl
          · rfl
        have k16 := NR wy.heap.size hHeld.2.2.2.2 (by simp)
        refine hK.out _ _ ⟨(below_cell (below_alloc (Below.refl _ _) (.cells #[.string d0, .string d1, .string d2, .pointer none] 112)) hHeld.1), (below_cell (below_alloc (Below.refl _ _) (.cells #[.string d0, .string d1, .string d2, .pointer none] 112)) hHeld.2.1), (below_cell (below_alloc (Below.refl _ _) (.cells #[.string d0, .string d1, .string d2, .pointer none] 112)) hHeld.2.2.1), (below_cell (below_alloc (Below.refl _ _) (.cells #[.string d0, .string d1, .string d2, .pointer none] 112)) hHeld.2.2.2.1), (below_then hHeld.2.2.2.2 (below_alloc (Below.refl _ _) (.cells #[.string d0, .string d1, .string d2, .pointer none] 112)))⟩ (fun hHeld => ?_)
        clear hK K
        refine norm_ (a' := ?_) ?_ ?_
        rotate_left
        · show Act.put _ (some 16) _ = _
          simp only [Act.put, List.setIfInBounds_toArray, List.set_cons_zero, List.set_cons_succ, i64_w, i32_w]
          rfl
        exact norm_ (by simp only [putAll, Act.put, List.setIfInBounds_toArray, List.set_cons_zero, List.set_cons_succ]) (hCont (S3, w5.heap.size, wy.heap.size) _ ⟨k16, hHeld⟩)
      · skip
        refine value_ (w1 := ?_) (v := ?_) (by rfl) rfl ?_ ?_
        rotate_left 2
        · go_simp
          constructor
          · rfl
          · rfl
        have k16 := NR (w5.heap.size + 1) hHeld.2.2.2.2 (by simp)
        refine hK.out _ _ ⟨(below_cell (below_alloc (Below.refl _ _) (.cells #[.string d0, .string d1, .string d2, .pointer none] 112)) hHeld.1), (below_cell (below_alloc (Below.refl _ _) (.cells #[.string d0, .string d1, .string d2, .pointer none] 112)) hHeld.2.1), (below_cell (below_alloc (Below.refl _ _) (.cells #[.string d0, .string d1, .string d2, .pointer none] 112)) hHeld.2.2.1), (below_cell (below_alloc (Below.refl _ _) (.cells #[.string d0, .string d1, .string d2, .pointer none] 112)) hHeld.2.2.2.1), (below_then hHeld.2.2.2.2 (below_alloc (Below.refl _ _) (.cells #[.string d0, .string d1, .string d2, .pointer none] 112)))⟩ (fun hHeld => ?_)
        clear hK K
        refine norm_ (a' := ?_) ?_ ?_
        rotate_left
        · show Act.put _ (some 16) _ = _
          simp only [Act.put, List.setIfInBounds_toArray, List.set_cons_zero, List.set_cons_succ, i64_w, i32_w]
          rfl
        refine one_ (i := 1) (N := some 13) #[true, true, true, true, true, false, false, false, false] rfl rfl (by kernel_rfl) (by decide) (fun K hK => ?_)
        refine goes_ Tryz.func46 (by kernel_rfl) rfl #[] (by rfl) rfl rfl (by simp only [List.map_toArray, List.map_cons, List.map_nil]) ?_
        with_reducible refine ((HN.out _)).mono ?_
        rintro e' wy ⟨S3, rfl, by_⟩
        refine ⟨_, rfl, ?_⟩
        replace k16 := below_heap by_ k16
        refine hK.out _ _ ⟨(below_cell by_ hHeld.1), (below_cell by_ hHeld.2.1), (below_cell by_ hHeld.2.2.1), (below_cell by_ hHeld.2.2.2.1), (below_then hHeld.2.2.2.2 by_)⟩ (fun hHeld => ?_)
        clear hK K
        refine norm_ (a' := ?_) ?_ ?_
        rotate_left
        · show Act.put _ (some 13) _ = _
          simp only [Act.put, List.setIfInBounds_toArray, List.set_cons_zero, List.set_cons_succ, i64_w, i32_w]
          rfl
        exact norm_ (by simp only [putAll, Act.put, List.setIfInBounds_toArray, List.set_cons_zero, List.set_cons_succ]) (hCont (S3, w5.heap.size, (w5.heap.size + 1)) _ ⟨k16, hHeld⟩)
    · skip
      refine value_ (w1 := ?_) (v := ?_) (by rfl) rfl ?_ ?_
      rotate_left 2
      · go_simp
        constructor
        · rfl
        · rfl
      have k16 := NR w5.heap.size hHeld.2.2.2.2 (by simp)
      refine hK.out _ _ ⟨(below_cell (below_alloc (Below.refl _ _) (.cells #[.string d0, .string d1, .string d2, .pointer none] 112)) hHeld.1), (below_cell (below_alloc (Below.refl _ _) (.cells #[.string d0, .string d1, .string d2, .pointer none] 112)) hHeld.2.1), (below_cell (below_alloc (Below.refl _ _) (.cells #[.string d0, .string d1, .string d2, .pointer none] 112)) hHeld.2.2.1), (below_cell (below_alloc (Below.refl _ _) (.cells #[.string d0, .string d1, .string d2, .pointer none] 112)) hHeld.2.2.2.1), (below_then hHeld.2.2.2.2 (below_alloc (Below.refl _ _) (.cells #[.string d0, .string d1, .string d2, .pointer none] 112)))⟩ (fun hHeld => ?_)
      clear hK K
      refine norm_ (a' := ?_) ?_ ?_
      rotate_left
      · show Act.put _ (some 16) _ = _
        simp only [Act.put, List.setIfInBounds_toArray, List.set_cons_zero, List.set_cons_succ, i64_w, i32_w]
        rfl
      refine two_ (i := 1) (j := 2) (Ni := some 13) (Nj := some 14) #[true, true, false, true, true, false, false, false, false] #[true, false, true, true, true, false, false, false, false] rfl rfl rfl rfl (by kernel_rfl) (by decide) (by decide) (fun K hK => ?_) (fun K hK => ?_)
      · skip
        refine goes_ Tryz.func46 (by kernel_rfl) rfl #[] (by rfl) rfl rfl (by simp only [List.map_toArray, List.map_cons, List.map_nil]) ?_
        with_reducible refine ((HN.out _)).mono ?_
        rintro e' wy ⟨S3, rfl, by_⟩
        refine ⟨_, rfl, ?_⟩
        replace k16 := below_heap by_ k16
        refine hK.out _ _ ⟨(below_cell by_ hHeld.1), (below_cell by_ hHeld.2.1), (below_cell by_ hHeld.2.2.1), (below_cell by_ hHeld.2.2.2.1), (below_then hHeld.2.2.2.2 by_)⟩ (fun hHeld => ?_)
        clear hK K
        refine norm_ (a' := ?_) ?_ ?_
        rotate_left
        · show Act.put _ (some 13) _ = _
          simp only [Act.put, List.setIfInBounds_toArray, List.set_cons_zero, List.set_cons_succ, i64_w, i32_w]
          rfl
        refine one_ (i := 2) (N := some 14) #[true, true, true, true, true, false, false, false, false] rfl rfl (by kernel_rfl) (by decide) (fun K hK => ?_)
        refine value_ (w1 := ?_) (v := ?_) (by rfl) rfl ?_ ?_
        rotate_left 2
        · go_simp
          constructor
          · rfl
          · rfl
        replace k16 := below_heap (below_alloc (Below.refl _ _) (.map #[] 0)) k16
        refine hK.out _ _ ⟨(below_cell (below_alloc (Below.refl _ _) (.map #[] 0)) hHeld.1), (below_cell (below_alloc (Below.refl _ _) (.map #[] 0)) hHeld.2.1), (below_cell (below_alloc (Below.refl _ _) (.map #[] 0)) hHeld.2.2.1), (below_cell (below_alloc (Below.refl _ _) (.map #[] 0)) hHeld.2.2.2.1), (below_then hHeld.2.2.2.2 (below_alloc (Below.refl _ _) (.map #[] 0)))⟩ (fun hHeld => ?_)
        clear hK K
        refine norm_ (a' := ?_) ?_ ?_
        rotate_left
        · show Act.put _ (some 14) _ = _
          simp only [Act.put, List.setIfInBounds_toArray, List.set_cons_zero, List.set_cons_succ, i64_w, i32_w]
          rfl
        exact norm_ (by simp only [putAll, Act.put, List.setIfInBounds_toArray, List.set_cons_zero, List.set_cons_succ]) (hCont (S3, wy.heap.size, w5.heap.size) _ ⟨k16, hHeld⟩)
      · skip
        refine value_ (w1 := ?_) (v := ?_) (by rfl) rfl ?_ ?_
        rotate_left 2
        · go_simp
          constructor
          · rfl
          · rfl
        replace k16 := below_heap (below_alloc (Below.refl _ _) (.map #[] 0)) k16
        refine hK.out _ _ ⟨(below_cell (below_alloc (Below.refl _ _) (.map #[] 0)) hHeld.1), (below_cell (below_alloc (Below.refl _ _) (.map #[] 0)) hHeld.2.1), (below_cell (below_alloc (Below.refl _ _) (.map #[] 0)) hHeld.2.2.1), (below_cell (below_alloc (Below.refl _ _) (.map #[] 0)) hHeld.2.2.2.1), (below_then hHeld.2.2.2.2 (below_alloc (Below.refl _ _) (.map #[] 0)))⟩ (fun hHeld => ?_)
        clear hK K
        refine norm_ (a' := ?_) ?_ ?_
        rotate_left
        · show Act.put _ (some 14) _ = _
          simp only [Act.put, List.setIfInBounds_toArray, List.set_cons_zero, List.set_cons_succ, i64_w, i32_w]
          rfl
        refine one_ (i := 1) (N := some 13) #[true, true, true, true, true, false, false, false, false] rfl rfl (by kernel_rfl) (by decide) (fun K hK => ?_)
        refine goes_ Tryz.func46 (by kernel_rfl) rfl #[] (by rfl) rfl rfl (by simp only [List.map_toArray, List.map_cons, List.map_nil]) ?_
        with_reducible refine ((HN.out _)).mono ?_
        rintro e' wy ⟨S3, rfl, by_⟩
        refine ⟨_, rfl, ?_⟩
        replace k16 := below_heap by_ k16
        refine hK.out _ _ ⟨(below_cell by_ hHeld.1), (below_cell by_ hHeld.2.1), (below_cell by_ hHeld.2.2.1), (below_cell by_ hHeld.2.2.2.1), (below_then hHeld.2.2.2.2 by_)⟩ (fun hHeld => ?_)
        clear hK K
        refine norm_ (a' := ?_) ?_ ?_
        rotate_left
        · show Act.put _ (some 13) _ = _
          simp only [Act.put, List.setIfInBounds_toArray, List.set_cons_zero, List.set_cons_succ, i64_w, i32_w]
          rfl
        exact norm_ (by simp only [putAll, Act.put, List.setIfInBounds_toArray, List.set_cons_zero, List.set_cons_succ]) (hCont (S3, (w5.heap.size + 1), w5.heap.size) _ ⟨k16, hHeld⟩)
  rintro ⟨S3, M3, R3⟩ w6 ⟨k16, hHeld⟩
  have b6 := hHeld.2.2.2.2
  refine norm_ (a' := ?_) ?_ ?_
  rotate_left
  · simp only [putAll, Act.put, List.setIfInBounds_toArray, List.set_cons_zero, List.set_cons_succ]
    rfl
  refine pure_ (i := 5) (N := some 17) (v := ?_) (a' := ?_) #[true, true, true, true, true, true, false, false, false] rfl rfl (by kernel_rfl) (fun _ _ _ h => h) (Or.inl ⟨by rfl, ?_⟩) ?_ ?_
  rotate_left
  · intro w'
    go_simp
    with_reducible rfl
  rotate_left
  · simp only [Act.put, List.setIfInBounds_toArray, List.set_cons_zero, List.set_cons_succ, i64_w, i32_w]
    rfl
  refine one_ (i := 6) (N := some 18) #[true, true, true, true, true, true, true, false, false] rfl rfl (by kernel_rfl) (by decide) (fun K hK => ?_)
  refine value_ (w1 := ?_) (v := ?_) (by rfl) rfl ?_ ?_
  rotate_left 2
  · go_simp
    constructor
    · rfl
    · rfl
  refine hK.out _ _ ⟨(below_cell (below_alloc (Below.refl _ _) (.cells #[.slice (some ⟨T, 0, none⟩) 1 c, .pointer (some ⟨S3, 0, none⟩), .map (some M3), .int .i64 0, .slice (some ⟨R3, 0, none⟩) 1 1] 118)) hHeld.1), (below_cell (below_alloc (Below.refl _ _) (.cells #[.slice (some ⟨T, 0, none⟩) 1 c, .pointer (some ⟨S3, 0, none⟩), .map (some M3), .int .i64 0, .slice (some ⟨R3, 0, none⟩) 1 1] 118)) hHeld.2.1), (below_cell (below_alloc (Below.refl _ _) (.cells #[.slice (some ⟨T, 0, none⟩) 1 c, .pointer (some ⟨S3, 0, none⟩), .map (some M3), .int .i64 0, .slice (some ⟨R3, 0, none⟩) 1 1] 118)) hHeld.2.2.1), (below_cell (below_alloc (Below.refl _ _) (.cells #[.slice (some ⟨T, 0, none⟩) 1 c, .pointer (some ⟨S3, 0, none⟩), .map (some M3), .int .i64 0, .slice (some ⟨R3, 0, none⟩) 1 1] 118)) hHeld.2.2.2.1), (below_then hHeld.2.2.2.2 (below_alloc (Below.refl _ _) (.cells #[.slice (some ⟨T, 0, none⟩) 1 c, .pointer (some ⟨S3, 0, none⟩), .map (some M3), .int .i64 0, .slice (some ⟨R3, 0, none⟩) 1 1] 118)))⟩ (fun hHeld => ?_)
  clear hK K
  refine norm_ (a' := ?_) ?_ ?_
  rotate_left
  · show Act.put _ (some 18) _ = _
    simp only [Act.put, List.setIfInBounds_toArray, List.set_cons_zero, List.set_cons_succ, i64_w, i32_w]
    rfl
  refine pure_ (i := 7) (N := some 2) (v := ?_) (a' := ?_) #[true, true, true, true, true, true, true, true, false] rfl rfl (by kernel_rfl) (fun _ _ _ h => h) (Or.inl ⟨by rfl, ?_⟩) ?_ ?_
  rotate_left
  · intro w'
    go_simp
    with_reducible rfl
  rotate_left
  · simp only [Act.put, List.setIfInBounds_toArray, List.set_cons_zero, List.set_cons_succ, i64_w, i32_w]
    rfl
  refine pure_ (i := 8) (N := some 3) (v := ?_) (a' := ?_) #[true, true, true, true, true, true, true, true, true] rfl rfl (by kernel_rfl) (fun _ _ _ h => h) (Or.inl ⟨by rfl, ?_⟩) ?_ ?_
  rotate_left
  · intro w'
    go_simp
    with_reducible rfl
  rotate_left
  · simp only [Act.put, List.setIfInBounds_toArray, List.set_cons_zero, List.set_cons_succ, i64_w, i32_w]
    rfl
  refine done_ (by kernel_rfl) ?_
  obtain ⟨L, hL⟩ : ∃ L, L = w6.heap.size := ⟨_, rfl⟩
  obtain ⟨w7, hw7⟩ : ∃ w7, w7 = w6.alloc (.cells #[.slice (some ⟨T, 0, none⟩) 1 c, .pointer (some ⟨S3, 0, none⟩), .map (some M3), .int .i64 0, .slice (some ⟨R3, 0, none⟩) 1 1] 118) := ⟨_, rfl⟩
  have b7 : Below w6.heap.size w6 w7 := by rw [hw7]; exact below_alloc (Below.refl _ _) _
  have c7 : w7.heap[L]? = some (.cells #[.slice (some ⟨T, 0, none⟩) 1 c, .pointer (some ⟨S3, 0, none⟩), .map (some M3), .int .i64 0, .slice (some ⟨R3, 0, none⟩) 1 1] 118 (0, 0)) := by rw [hw7, hL]; exact heap_alloc_new _ _
  have FIN : w7.cell? ⟨L, 4, none⟩ = some (.slice (some ⟨R3, 0, none⟩) 1 1) ∧ w7.heap[R3]? = some (.cells st0 112 (0, 0)) ∧ Below w.heap.size w w7 := ⟨cell_at c7 rfl, by rw [HD.out]; exact below_heap b7 k16, below_then BB.out (below_then b6 b7)⟩
  have FF := hid FIN
  rw [← hw7, ← hL]
  clear hw7 hL b7 c7 FIN k16 NR HN v0 v1 v2 v3 G0
  go_wp2
  go_ret2
  exact ⟨L, R3, rfl, FF.out⟩
end Go.Proofs.YtdhhaibefifdmaaGreatDoor

/- What awake runs through: an engine on an empty disk. -/
namespace Go.Proofs.YtdhhaibefifdmaaGreatDoor
open Go.RowKit PrintLast

theorem eqlB (w : World) (a : Option Addr) (n c n' c' : Nat) : (binOp .eql 22 (.slice a n c) (.slice none n' c')).run Tryz.prog w = .ok (.bool a.isNone) w := Lib.run_eql_slice_nil w _ _ a n c n' c' Tryz.underlying22
theorem eqlV (w : World) (a : Option Addr) (n c n' c' : Nat) : (binOp .eql 46 (.slice a n c) (.slice none n' c')).run Tryz.prog w = .ok (.bool a.isNone) w := Lib.run_eql_slice_nil w _ _ a n c n' c' Tryz.underlying46
theorem clone_nil {w : World} : Calls Tryz.prog 24 #[.slice none 0 0] w fun e w' => e = .returned (.slice none 0 0) ∧ w = w' := by
  have q := @eqlB
  go_enter Tryz.func24, Tryz.ntmps24
  go_wp2
  go_ret
  exact ⟨rfl, rfl⟩
theorem cloneV_nil {w : World} : Calls Tryz.prog 57 #[.slice none 0 0] w fun e w' => e = .returned (.slice none 0 0) ∧ w = w' := by
  have q := @eqlV
  go_enter Tryz.func57, Tryz.ntmps57
  go_wp2
  go_ret
  exact ⟨rfl, rfl⟩
theorem disk_nil {w : World} : Calls Tryz.prog 11 #[.slice none 0 0] w fun e w' => ∃ D : Nat, e = .returned (.pointer (some ⟨D, 0, none⟩)) ∧ w'.cell? ⟨D, 0, none⟩ = some (.slice none 0 0) ∧ Below w.heap.size w w' := by
  have HC := hid (clone_nil (w := w))
  go_enter Tryz.func11, Tryz.ntmps11
  go_wp2_with fail
  refine HC.out.mono ?_
  rintro e w1 ⟨rfl, rfl⟩
  clear HC
  go_wp2
  go_ret
  exact ⟨w.heap.size, rfl, by go_cell, by go_grown⟩
theorem read_nil {w : World} {D : Nat} (h : w.cell? ⟨D, 0, none⟩ = some (.slice none 0 0)) : Calls Tryz.prog 47 #[.pointer (some ⟨D, 0, none⟩)] w fun e w' => e = .returned (.slice none 0 0) ∧ w = w' := by
  have HC := hid (clone_nil (w := w))
  go_enter Tryz.func47, Tryz.ntmps47
  go_wp2_with fail
  refine HC.out.mono ?_
  rintro e w1 ⟨rfl, rfl⟩
  clear HC
  go_wp2
  go_ret
  exact ⟨rfl, rfl⟩
theorem next_nil {w : World} : Calls Tryz.prog 75 #[.slice none 0 0] w fun e w' => e = .returned (.tuple #[.slice none 0 0, .bool false]) ∧ w = w' := by
  go_enter Tryz.func75, Tryz.ntmps75
  go_wp2
  go_ret2
  exact ⟨rfl, rfl⟩
theorem scan_nil {w : World} : Calls Tryz.prog 48 #[.slice none 0 0] w fun e w' => e = .returned (.tuple #[.slice none 0 0, .int .i64 0]) ∧ w = w' := by
  have HC := hid (next_nil (w := w))
  go_enter Tryz.func48, Tryz.ntmps48
  go_wp2
  refine wp_loop_rounds 1 ?_
  rw [rounds_succ]
  go_wp2_with fail
  refine HC.out.mono ?_
  rintro e w1 ⟨rfl, rfl⟩
  clear HC
  go_wp2
  go_ret2
  exact ⟨rfl, rfl⟩
theorem wopen_nil {w : World} {D : Nat} (h : w.cell? ⟨D, 0, none⟩ = some (.slice none 0 0)) : Calls Tryz.prog 21 #[.pointer (some ⟨D, 0, none⟩)] w fun e w' => ∃ G : Nat, e = .returned (.tuple #[.pointer (some ⟨G, 0, none⟩), .slice none 0 0, .int .i64 0]) ∧ Below w.heap.size w w' := by
  have HC := hid (read_nil h)
  have HS := hid (scan_nil (w := w))
  clear h
  go_enter Tryz.func21, Tryz.ntmps21
  go_wp2_with fail
  refine HC.out.mono ?_
  rintro e w1 ⟨rfl, rfl⟩
  clear HC
  go_wp2_with fail
  refine HS.out.mono ?_
  rintro e w1 ⟨rfl, rfl⟩
  clear HS
  go_wp2
  go_ret3
  exact ⟨w.heap.size, rfl, by go_grown⟩
theorem replay_nil {w : World} {v : Value} : Calls Tryz.prog 22 #[v, .slice none 0 0] w fun e w' => e = .returned (.int .i64 0) ∧ w = w' := by
  go_enter Tryz.func22, Tryz.ntmps22
  go_wp2
  refine wp_loop_rounds 1 ?_
  rw [rounds_succ]
  go_wp2
  go_ret
  exact ⟨rfl, rfl⟩
theorem queue_new {w : World} : Calls Tryz.prog 52 #[.int .i64 4] w fun e w' => ∃ Q : Nat, e = .returned (.pointer (some ⟨Q, 0, none⟩)) ∧ Below w.heap.size w w' := by
  go_enter Tryz.func52, Tryz.ntmps52
  go_wp2
  go_ret
  exact ⟨w.heap.size, rfl, by go_grown⟩
theorem group_new {w : World} {L G : Nat} : Calls Tryz.prog 23 #[.pointer (some ⟨L, 0, none⟩), .pointer (some ⟨G, 0, none⟩)] w fun e w' => ∃ P : Nat, e = .returned (.pointer (some ⟨P, 0, none⟩)) ∧ w'.cell? ⟨P, 3, none⟩ = some (.int .u8 0) ∧ Below w.heap.size w w' := by
  have HQ := hid (queue_new (w := w))
  go_enter Tryz.func23, Tryz.ntmps23
  go_wp2_with fail
  refine HQ.out.mono ?_
  rintro e w1 ⟨Q, rfl, b1⟩
  have BB := hid b1
  clear HQ b1
  go_wp2
  go_ret
  exact ⟨w1.heap.size, rfl, by go_cell, below_then BB.out (by go_grown)⟩
end Go.Proofs.YtdhhaibefifdmaaGreatDoor

/- What awake runs through: an engine: opened, asked for its digest, quiet. -/
namespace Go.Proofs.YtdhhaibefifdmaaGreatDoor
open Go.RowKit PrintLast

/-- An engine's cells: nobody waits. -/
def engC (L P : Nat) (h : Value) (n : Int) : Array Value := #[.pointer (some ⟨L, 0, none⟩), .pointer (some ⟨P, 0, none⟩), .int .i64 0, .int .i64 0, .bool false, .int .i64 0, .bool false, .slice none 0 0, .slice none 0 0, .slice none 0 0, .bool false, .int .i64 0, .int .i64 0, .bool false, .int .i64 0, .bool false, .slice none 0 0, .slice none 0 0, .slice none 0 0, .bool false, .int .i64 0, .int .i64 0, .bool false, .int .i64 0, .bool false, .slice none 0 0, .slice none 0 0, .slice none 0 0, .bool false, .int .i64 0, .int .i64 0, .bool false, .int .i64 0, .bool false, .slice none 0 0, .slice none 0 0, .slice none 0 0, .bool false, .int .i64 0, .int .i64 0, .bool false, .int .i64 0, .bool false, .slice none 0 0, .slice none 0 0, .slice none 0 0, .bool false, .int .i64 0, .int .i64 0, .bool false, .int .i64 0, .bool false, .slice none 0 0, .slice none 0 0, .slice none 0 0, .bool false, .int .i64 0, .int .i64 0, .bool false, .int .i64 0, .bool false, .slice none 0 0, .slice none 0 0, .slice none 0 0, .bool false, .int .i64 0, .int .i64 0, .bool false, .int .i64 0, .bool false, .slice none 0 0, .slice none 0 0, .slice none 0 0, .bool false, h, .int .i64 n]
/-- An engine that nobody has asked but so many times. -/
structure EngAt (w : World) (E L P R : Nat) (h : Value) (n : Int) : Prop where
  eng : w.heap[E]? = some (.cells (engC L P h n) 74 (0, 0))
  led : w.cell? ⟨L, 4, none⟩ = some (.slice (some ⟨R, 0, none⟩) 1 1)
  sts : w.heap[R]? = some (.cells st0 112 (0, 0))
  phase : w.cell? ⟨P, 3, none⟩ = some (.int .u8 0)
theorem EngAt.below {w w' : World} {E L P R : Nat} {h : Value} {n : Int} (H : EngAt w E L P R h n) (hb : Below w.heap.size w w') : EngAt w' E L P R h n :=
  ⟨below_heap hb H.eng, below_cell hb H.led, below_heap hb H.sts, below_cell hb H.phase⟩
set_option maxRecDepth 100000 in
set_option maxHeartbeats 3200000 in
theorem engine_open {w : World} (hT : Table w) {T C c D : Nat} (h : TabAt w T C) (hD : w.cell? ⟨D, 0, none⟩ = some (.slice none 0 0)) : Calls Tryz.prog 9 #[.slice (some ⟨T, 0, none⟩) 1 c, .pointer (some ⟨D, 0, none⟩)] w fun e w' =>
    ∃ E L P R : Nat, e = .returned (.tuple #[.pointer (some ⟨E, 0, none⟩), .int .i64 0]) ∧ EngAt w' E L P R (.slice none 0 0) 0 ∧ w.heap.size ≤ E ∧ Below w.heap.size w w' := by
  have HL := hid (ledger_new (c := c) hT h)
  have HD := hid hD
  clear hT h hD
  go_enter Tryz.func9, Tryz.ntmps9
  go_wp2_with fail
  refine HL.out.mono ?_
  rintro e w1 ⟨L, R, rfl, l1, s1, b1⟩
  have HW := hid (wopen_nil (below_cell b1 HD.out))
  have BB := hid b1
  have LS := hid (And.intro l1 s1)
  clear HL b1 l1 s1
  go_wp2_with fail
  refine HW.out.mono ?_
  rintro e w2 ⟨G, rfl, b2⟩
  replace LS := hid (And.intro (below_cell b2 LS.out.1) (below_heap b2 LS.out.2))
  replace BB := hid (below_then BB.out b2)
  clear HW b2
  have HR := hid (replay_nil (w := w2) (v := .pointer (some ⟨L, 0, none⟩)))
  go_wp2_with fail
  refine HR.out.mono ?_
  rintro e w3 ⟨rfl, rfl⟩
  clear HR
  have HG := hid (group_new (w := w2) (L := L) (G := G))
  go_wp2_with fail
  refine HG.out.mono ?_
  rintro e w4 ⟨P, rfl, p4, b4⟩
  replace LS := hid (And.intro (below_cell b4 LS.out.1) (below_heap b4 LS.out.2))
  replace BB := hid (below_then BB.out b4)
  have PP := hid p4
  clear HG b4 p4
  obtain ⟨w5, hw5⟩ : ∃ w5, w5 = w4.alloc (.cells ((Tryz.zeroCells74.setIfInBounds 0 (.pointer (some ⟨L, 0, none⟩))).setIfInBounds 1 (.pointer (some ⟨P, 0, none⟩))) 74) := ⟨_, rfl⟩
  obtain ⟨E, hE⟩ : ∃ E, E = w4.heap.size := ⟨_, rfl⟩
  have b5 : Below w4.heap.size w4 w5 := by rw [hw5]; exact below_alloc (Below.refl _ _) _
  have c5 : w5.heap[E]? = some (.cells (engC L P (.slice none 0 0) 0) 74 (0, 0)) := by rw [hw5, hE]; exact heap_alloc_new _ _
  have FIN := hid (And.intro (show EngAt w5 E L P R (.slice none 0 0) 0 from ⟨c5, below_cell b5 LS.out.1, below_heap b5 LS.out.2, below_cell b5 PP.out⟩) (And.intro (show w.heap.size ≤ E by rw [hE]; exact BB.out.size) (below_then BB.out b5)))
  have HE := hid (And.intro hE hw5)
  clear hw5 hE b5 c5 LS BB PP
  go_wp2
  rw [← HE.out.1, ← HE.out.2]
  go_ret2
  exact ⟨E, L, P, R, rfl, FIN.out⟩
theorem engC_get {L P : Nat} {h : Value} {n : Int} {c : Nat} (hc : c < 8) : (engC L P h n)[2 + c * 9 + 2]? = some (.bool false) := by
  match c, hc with
  | 0, _ => rfl
  | 1, _ => rfl
  | 2, _ => rfl
  | 3, _ => rfl
  | 4, _ => rfl
  | 5, _ => rfl
  | 6, _ => rfl
  | 7, _ => rfl
set_option maxRecDepth 100000 in
theorem of_any {w : World} {E c : Nat} (hc : c < 8) : Calls Tryz.prog 25 #[.pointer (some ⟨E, 0, none⟩), .int .i64 (c : Int)] w fun e w' => e = .returned (.pointer (some ⟨E, 2 + c * 9, none⟩)) ∧ w = w' := by
  have t1 : decide ((c : Int) < 0) = false := by simp
  have t2 : decide ((c : Int) ≥ 8) = false := by simp; omega
  have t3 : (0 : Int) ≤ (c : Int) ∧ (c : Int) < 8 := by omega
  go_enter Tryz.func25, Tryz.ntmps25
  go_wp2
  go_ret
  exact ⟨rfl, rfl⟩
set_option maxRecDepth 100000 in
theorem pending_no {w : World} {E L P R c : Nat} {h : Value} {n : Int} (H : EngAt w E L P R h n) (hc : c < 8) : Calls Tryz.prog 30 #[.pointer (some ⟨E, 0, none⟩), .int .i64 (c : Int)] w fun e w' => e = .returned (.bool false) ∧ w = w' := by
  have HO := hid (of_any (w := w) (E := E) hc)
  have k := cell_at H.eng (engC_get (c := c) hc)
  clear H hc
  go_enter Tryz.func30, Tryz.ntmps30
  go_wp2_with fail
  refine HO.out.mono ?_
  rintro e w1 ⟨rfl, rfl⟩
  clear HO
  go_wp2
  go_ret
  exact ⟨rfl, rfl⟩
theorem gphase_any {w : World} {P : Nat} (h : w.cell? ⟨P, 3, none⟩ = some (.int .u8 0)) : Calls Tryz.prog 61 #[.pointer (some ⟨P, 0, none⟩)] w fun e w' => e = .returned (.int .u8 0) ∧ w = w' := by
  go_enter Tryz.func61, Tryz.ntmps61
  go_wp2
  go_ret
  exact ⟨rfl, rfl⟩
theorem comm_any {w : World} {E P : Nat} (h : w.cell? ⟨E, 1, none⟩ = some (.pointer (some ⟨P, 0, none⟩))) : Calls Tryz.prog 60 #[.pointer (some ⟨E, 0, none⟩)] w fun e w' => e = .returned (.pointer (some ⟨P, 0, none⟩)) ∧ w = w' := by
  go_enter Tryz.func60, Tryz.ntmps60
  go_wp2
  go_ret
  exact ⟨rfl, rfl⟩
theorem phase_any {w : World} {E L P R : Nat} {h : Value} {n : Int} (H : EngAt w E L P R h n) : Calls Tryz.prog 31 #[.pointer (some ⟨E, 0, none⟩)] w fun e w' => e = .returned (.int .u8 0) ∧ w = w' := by
  have HC := hid (comm_any (cell_at H.eng (i := 1) rfl))
  have HP := hid (gphase_any H.phase)
  clear H
  go_enter Tryz.func31, Tryz.ntmps31
  go_wp2_with fail
  refine HC.out.mono ?_
  rintro e w1 ⟨rfl, rfl⟩
  clear HC
  go_wp2_with fail
  refine HP.out.mono ?_
  rintro e w1 ⟨rfl, rfl⟩
  clear HP
  go_wp2
  go_ret
  exact ⟨rfl, rfl⟩
set_option maxRecDepth 100000 in
theorem quiet_any {w : World} {E L P R : Nat} {h : Value} {n : Int} (H : EngAt w E L P R h n) : Calls Tryz.prog 14 #[.pointer (some ⟨E, 0, none⟩)] w fun e w' => e = .returned (.bool true) ∧ w = w' := by
  have HQ : Hid (∀ c : Nat, c < 8 → Calls Tryz.prog 30 #[.pointer (some ⟨E, 0, none⟩), .int .i64 (c : Int)] w fun e w' => e = .returned (.bool false) ∧ w = w') := hid (fun c hc => pending_no H hc)
  have HP := hid (phase_any H)
  clear H
  go_enter Tryz.func14, Tryz.ntmps14
  go_wp2
  go_loopw [4] (fun v wr => ∃ k : Nat, k ≤ 8 ∧ v = .int .i64 (k : Int) ∧ Hid (wr = w)) (fun v _ => 8 - (intOf v).toNat)
  case atStart => exact ⟨0, by omega, rfl, hid rfl⟩
  case round =>
    obtain ⟨k, hk, rfl, hw⟩ := hrel
    obtain rfl := hw.out
    clear hw
    by_cases hlt : k < 8
    · have t1 : decide ((k : Int) < 8) = true := by simp; omega
      have wk : wrap64 ((k : Int) + 1) = (k : Int) + 1 := by unfold wrap64; omega
      have HC := hid (HQ.out k hlt)
      have KL := hid hlt
      clear hlt
      go_wp2_with fail
      refine HC.out.mono ?_
      rintro e w1 ⟨rfl, rfl⟩
      clear HC
      go_wp2
      go_roundw
      case rel => exact ⟨k + 1, KL.out, by go_num, hid True.intro⟩
      case measure => have := KL.out; simp [intOf]; omega
    · obtain rfl : k = 8 := by omega
      rw [show ((8 : Nat) : Int) = 8 from rfl]
      go_wp2_with fail
      refine HP.out.mono ?_
      rintro e w1 ⟨rfl, rfl⟩
      go_wp2
      go_ret
      exact ⟨rfl, rfl⟩
set_option maxRecDepth 100000 in
theorem digests_one {w : World} {L R : Nat} (l : w.cell? ⟨L, 4, none⟩ = some (.slice (some ⟨R, 0, none⟩) 1 1)) (s : w.heap[R]? = some (.cells st0 112 (0, 0))) : Calls Tryz.prog 95 #[.pointer (some ⟨L, 0, none⟩)] w fun e w' =>
    ∃ (g c : Nat), e = .returned (.slice (some ⟨g, 0, none⟩) 1 c) ∧ 1 ≤ c ∧ w.heap.size ≤ g ∧ w'.cell? ⟨g, 0, none⟩ = some (.string first0) ∧ Below w.heap.size w w' := by
  obtain ⟨d0, hd0⟩ : ∃ d, d = first0 := ⟨_, rfl⟩
  obtain ⟨d1, hd1⟩ : ∃ d, d = dig [0] := ⟨_, rfl⟩
  obtain ⟨d2, hd2⟩ : ∃ d, d = dig [] := ⟨_, rfl⟩
  have e0 : st0 = #[.string d0, .string d1, .string d2, .pointer none] := by rw [hd0, hd1, hd2]; rfl
  rw [e0] at s
  have HD := hid hd0
  rw [← HD.out]
  clear e0 hd0 hd1 hd2
  obtain ⟨v0, v1, v2, v3, -, -, -, -⟩ := four s
  clear s
  go_enter Tryz.func95, Tryz.ntmps95
  go_wp2
  refine wp_loop_rounds 2 ?_
  rw [rounds_succ]
  go_wp2
  rw [rounds_succ]
  go_wp2
  go_ret
  refine ⟨w.heap.size + 1 + 1, _, rfl, grownCap_ge w 1 0 9, by omega, ?_, by go_grown⟩
  have e : ∀ (W : World) a, W.drew.cell? a = W.cell? a := fun _ _ => rfl
  rw [e]; exact last_cell (by simp) (by rfl)
theorem ret_cell_one {P : Program} {fn : Func} {p : Tmp} {ty : TypeId} (h : fn.results = #[.cell p ty]) {tmps : Array Value} {w : World} {g : Nat} {cs : Array Value} {t : TypeId} {fr : Nat × Nat} {d : TypeDesc} (hp : tmps.getD p undef = .pointer (some ⟨g, 0, none⟩)) (hg : w.heap[g]? = some (.cells cs t fr))
    (hu : P.underlying ty = some d) (hd : (match d with | .struct _ | .array _ _ => true | _ => false) = true) (hi : (P.info? ty).map (·.size) = some cs.size) :
    (results fn tmps).run P w = .ok (.agg cs) w := results_cell_row h _ _ g t cs fr d hp hg hu hd hi
theorem infReply : (Tryz.prog.info? 43).map (·.size) = some 5 := by kernel_rfl
theorem infCall : (Tryz.prog.info? 48).map (·.size) = some 5 := by kernel_rfl
/-- The call that asks for the newest digest. -/
def askV : Value := .agg #[.int .u8 8, .int .i64 0, .slice none 0 0, .string ⟨#[]⟩, .int .i64 0]
/-- What it is answered. -/
def toldV (g c : Nat) : Value := .agg #[.int .i64 0, .bool false, .slice none 0 0, .slice (some ⟨g, 0, none⟩) 1 c, .slice none 0 0]
set_option maxRecDepth 100000 in
set_option maxHeartbeats 1600000 in
theorem past_one {w : World} {E L P R : Nat} {h : Value} {n : Int} (H : EngAt w E L P R h n) : Calls Tryz.prog 56 #[.pointer (some ⟨E, 0, none⟩), askV] w fun e w' =>
    ∃ (g c : Nat), e = .returned (toldV g c) ∧ w.heap.size ≤ g ∧ w'.cell? ⟨g, 0, none⟩ = some (.string first0) ∧ Below w.heap.size w w' := by
  unfold askV
  obtain ⟨w1, hw1⟩ : ∃ w1, w1 = (w.alloc (.cells #[.int .u8 8, .int .i64 0, .slice none 0 0, .string ⟨#[]⟩, .int .i64 0] 48)).alloc (.cells #[.int .i64 0, .bool false, .slice none 0 0, .slice none 0 0, .slice none 0 0] 43) := ⟨_, rfl⟩
  have b1 : Below w.heap.size w w1 := by rw [hw1]; go_grown
  have H1 := hid (H.below b1)
  have BB := hid b1
  obtain ⟨S, hS⟩ : ∃ S, S = w.heap.size := ⟨_, rfl⟩
  obtain ⟨S1, hS1⟩ : ∃ S1, S1 = S + 1 := ⟨_, rfl⟩
  have g0 : w1.heap[S]? = some (.cells #[.int .u8 8, .int .i64 0, .slice none 0 0, .string ⟨#[]⟩, .int .i64 0] 48 (0, 0)) := by
    rw [hw1, hS]; exact below_heap (below_alloc (Below.refl _ _) _) (heap_alloc_new _ _)
  have g1 : w1.heap[S1]? = some (.cells #[.int .i64 0, .bool false, .slice none 0 0, .slice none 0 0, .slice none 0 0] 43 (0, 0)) := by
    rw [hw1, hS1, hS]
    have := heap_alloc_new (w.alloc (.cells #[.int .u8 8, .int .i64 0, .slice none 0 0, .string ⟨#[]⟩, .int .i64 0] 48)) (.cells #[.int .i64 0, .bool false, .slice none 0 0, .slice none 0 0, .slice none 0 0] 43)
    rw [show (w.alloc (.cells #[.int .u8 8, .int .i64 0, .slice none 0 0, .string ⟨#[]⟩, .int .i64 0] 48)).heap.size = w.heap.size + 1 by simp] at this
    exact this
  have G0 := hid g0
  have G1 := hid g1
  have HW := hid hw1
  have HS := hid (show S1 = w.heap.size + 1 by rw [hS1, hS])
  have HS0 := hid hS
  have HDG := hid (digests_one H1.out.led H1.out.sts)
  have k0 := cell_at H1.out.eng (i := 0) rfl
  clear H b1 hw1 hS hS1 g0 g1
  go_enter Tryz.func56, Tryz.ntmps56
  go_upto_region 1 with fail
  rw [← HS.out, ← HS0.out, ← HW.out]
  go_wp2_with fail
  refine HDG.out.mono ?_
  rintro e w2 ⟨g, c, rfl, c1, gS, cg, b2⟩
  have gs := hid (show g ≠ S1 ∧ w.heap.size ≤ g by have := HS.out; have := lt_of_block G1.out; omega)
  clear gS
  have a0 := below_heap b2 G0.out
  have a1 := below_heap b2 G1.out
  have kk := cell_at a0 (i := 0) rfl
  have q0 := cell_at a1 (i := 0) rfl
  have q1 := cell_at a1 (i := 1) rfl
  have q2 := cell_at a1 (i := 2) rfl
  have q3 := cell_at a1 (i := 3) rfl
  have q4 := cell_at a1 (i := 4) rfl
  have f0 := free_at a1 0
  have f1 := free_at a1 1
  have f2 := free_at a1 2
  have f3 := free_at a1 3
  have f4 := free_at a1 4
  have B2 := hid (below_then BB.out b2)
  have CG := hid cg
  have C1 := hid c1
  clear HDG k0 G0 G1 b2 cg a0 H1
  go_wp2
  have G6 : ((((((w2.setCell ⟨S1, 3, none⟩ (.slice (some ⟨g, 0, none⟩) 1 c)).setCell ⟨S1, 0, none⟩ (.int .i64 0)).setCell ⟨S1, 1, none⟩ (.bool false)).setCell ⟨S1, 2, none⟩ (.slice none 0 0)).setCell ⟨S1, 3, none⟩ (.slice (some ⟨g, 0, none⟩) 1 c)).setCell ⟨S1, 4, none⟩ (.slice none 0 0)).heap[S1]? = some (.cells #[.int .i64 0, .bool false, .slice none 0 0, .slice (some ⟨g, 0, none⟩) 1 c, .slice none 0 0] 43 (0, 0)) := by
    rw [heap_set (heap_set (heap_set (heap_set (heap_set (heap_set a1)))))]; rfl
  have K6 : Keeps (fun k => k = S1) w2 ((((((w2.setCell ⟨S1, 3, none⟩ (.slice (some ⟨g, 0, none⟩) 1 c)).setCell ⟨S1, 0, none⟩ (.int .i64 0)).setCell ⟨S1, 1, none⟩ (.bool false)).setCell ⟨S1, 2, none⟩ (.slice none 0 0)).setCell ⟨S1, 3, none⟩ (.slice (some ⟨g, 0, none⟩) 1 c)).setCell ⟨S1, 4, none⟩ (.slice none 0 0)) :=
    ((((((Keeps.refl (fun k => k = S1) w2).setCell (p := ⟨S1, 3, none⟩) (fun _ => rfl) _).setCell (p := ⟨S1, 0, none⟩) (fun _ => rfl) _).setCell (p := ⟨S1, 1, none⟩) (fun _ => rfl) _).setCell (p := ⟨S1, 2, none⟩) (fun _ => rfl) _).setCell (p := ⟨S1, 3, none⟩) (fun _ => rfl) _).setCell (p := ⟨S1, 4, none⟩) (fun _ => rfl) _
  have B6 : Below w.heap.size w ((((((w2.setCell ⟨S1, 3, none⟩ (.slice (some ⟨g, 0, none⟩) 1 c)).setCell ⟨S1, 0, none⟩ (.int .i64 0)).setCell ⟨S1, 1, none⟩ (.bool false)).setCell ⟨S1, 2, none⟩ (.slice none 0 0)).setCell ⟨S1, 3, none⟩ (.slice (some ⟨g, 0, none⟩) 1 c)).setCell ⟨S1, 4, none⟩ (.slice none 0 0)) := by
    have sz := HS.out
    have hg : w.heap.size ≤ S1 := by omega
    exact (((((B2.out.setCell (p := ⟨S1, 3, none⟩) hg _).setCell (p := ⟨S1, 0, none⟩) hg _).setCell (p := ⟨S1, 1, none⟩) hg _).setCell (p := ⟨S1, 2, none⟩) hg _).setCell (p := ⟨S1, 3, none⟩) hg _).setCell (p := ⟨S1, 4, none⟩) hg _
  have C6 := K6.cell CG.out gs.out.1
  have G7 := hid G6
  have FIN := hid (And.intro gs.out.2 (And.intro C6 B6))
  clear G6 K6 B6 C6 a1 kk q0 q1 q2 q3 q4 f0 f1 f2 f3 f4 B2 CG c1
  generalize ((((((w2.setCell ⟨S1, 3, none⟩ (.slice (some ⟨g, 0, none⟩) 1 c)).setCell ⟨S1, 0, none⟩ (.int .i64 0)).setCell ⟨S1, 1, none⟩ (.bool false)).setCell ⟨S1, 2, none⟩ (.slice none 0 0)).setCell ⟨S1, 3, none⟩ (.slice (some ⟨g, 0, none⟩) 1 c)).setCell ⟨S1, 4, none⟩ (.slice none 0 0)) = w3 at *
  refine bodyPost_ret (ret_cell_one rfl rfl G7.out Tryz.underlying43 rfl infReply) rfl ?_
  exact ⟨g, c, rfl, FIN.out⟩
theorem copied_any {w : World} : Calls Tryz.prog 27 #[askV] w fun e w' => e = .returned askV ∧ Below w.heap.size w w' := by
  unfold askV
  have HC : Hid (∀ w : World, Calls Tryz.prog 57 #[.slice none 0 0] w fun e w' => e = .returned (.slice none 0 0) ∧ w = w') := hid (fun w => cloneV_nil)
  go_enter Tryz.func27, Tryz.ntmps27
  go_wp2_with fail
  refine (HC.out _).mono ?_
  rintro e w1 ⟨rfl, rfl⟩
  go_wp2
  go_returns
  exact ⟨rfl, by go_grown⟩
set_option maxRecDepth 100000 in
set_option maxHeartbeats 1600000 in
theorem answer_one {w : World} {E L P R : Nat} {h : Value} {n : Int} {y : Value} (H : EngAt w E L P R h n) : Calls Tryz.prog 26 #[.pointer (some ⟨E, 0, none⟩), y, askV] w fun e w' =>
    ∃ (g c : Nat), e = .returned (.tuple #[toldV g c, .bool true]) ∧ w.heap.size ≤ g ∧ w'.cell? ⟨g, 0, none⟩ = some (.string first0) ∧ Below w.heap.size w w' := by
  obtain ⟨S, hS⟩ : ∃ S, S = w.heap.size := ⟨_, rfl⟩
  obtain ⟨S1, hS1⟩ : ∃ S1, S1 = S + 1 := ⟨_, rfl⟩
  obtain ⟨w1, hw1⟩ : ∃ w1, w1 = (w.alloc (.cells #[.int .u8 8, .int .i64 0, .slice none 0 0, .string ⟨#[]⟩, .int .i64 0] 48)).alloc (.cells #[.int .i64 0, .bool false, .slice none 0 0, .slice none 0 0, .slice none 0 0] 43) := ⟨_, rfl⟩
  have b1 : Below w.heap.size w w1 := by rw [hw1]; go_grown
  have g1 : w1.heap[S1]? = some (.cells #[.int .i64 0, .bool false, .slice none 0 0, .slice none 0 0, .slice none 0 0] 43 (0, 0)) := by
    rw [hw1, hS1, hS]
    have := heap_alloc_new (w.alloc (.cells #[.int .u8 8, .int .i64 0, .slice none 0 0, .string ⟨#[]⟩, .int .i64 0] 48)) (.cells #[.int .i64 0, .bool false, .slice none 0 0, .slice none 0 0, .slice none 0 0] 43)
    rw [show (w.alloc (.cells #[.int .u8 8, .int .i64 0, .slice none 0 0, .string ⟨#[]⟩, .int .i64 0] 48)).heap.size = w.heap.size + 1 by simp] at this
    exact this
  have g0 : w1.heap[S]? = some (.cells #[.int .u8 8, .int .i64 0, .slice none 0 0, .string ⟨#[]⟩, .int .i64 0] 48 (0, 0)) := by
    rw [hw1, hS]; exact below_heap (below_alloc (Below.refl _ _) _) (heap_alloc_new _ _)
  have HP := hid (past_one (H.below b1))
  have G1 := hid g1
  have BB := hid b1
  have HW := hid hw1
  have HS := hid (show S1 = w.heap.size + 1 by rw [hS1, hS])
  have HS0 := hid hS
  have sz1 := hid (show w.heap.size ≤ w1.heap.size from b1.size)
  have k0 := cell_at g0 (i := 0) rfl
  have k1 := cell_at g0 (i := 1) rfl
  have k2 := cell_at g0 (i := 2) rfl
  have k3 := cell_at g0 (i := 3) rfl
  have k4 := cell_at g0 (i := 4) rfl
  clear H b1 hw1 hS hS1 g0 g1
  unfold askV at HP ⊢
  go_enter Tryz.func26, Tryz.ntmps26
  go_upto_region 1 with fail
  rw [← HS.out, ← HS0.out, ← HW.out]
  go_wp2_with fail
  refine HP.out.mono ?_
  rintro e w2 ⟨g, c, rfl, gS, cg, b2⟩
  have gs := hid (show g ≠ S1 ∧ w.heap.size ≤ g by have := HS.out; have := lt_of_block G1.out; have := sz1.out; omega)
  have a1 := below_heap b2 G1.out
  have f0 := free_at a1 0
  have f1 := free_at a1 1
  have f2 := free_at a1 2
  have f3 := free_at a1 3
  have f4 := free_at a1 4
  have B2 := hid (below_then BB.out b2)
  have CG := hid cg
  have A1 := hid a1
  have q0 := cell_at a1 (i := 0) rfl
  have q1 := cell_at a1 (i := 1) rfl
  have q2 := cell_at a1 (i := 2) rfl
  have q3 := cell_at a1 (i := 3) rfl
  have q4 := cell_at a1 (i := 4) rfl
  clear HP k0 k1 k2 k3 k4 G1 b2 cg gS a1
  unfold toldV
  go_wp2
  have G6 : (((((w2.setCell ⟨S1, 0, none⟩ (.int .i64 0)).setCell ⟨S1, 1, none⟩ (.bool false)).setCell ⟨S1, 2, none⟩ (.slice none 0 0)).setCell ⟨S1, 3, none⟩ (.slice (some ⟨g, 0, none⟩) 1 c)).setCell ⟨S1, 4, none⟩ (.slice none 0 0)).heap[S1]? = some (.cells #[.int .i64 0, .bool false, .slice none 0 0, .slice (some ⟨g, 0, none⟩) 1 c, .slice none 0 0] 43 (0, 0)) := by
    rw [heap_set (heap_set (heap_set (heap_set (heap_set A1.out))))]; rfl
  have K6 : Keeps (fun k => k = S1) w2 (((((w2.setCell ⟨S1, 0, none⟩ (.int .i64 0)).setCell ⟨S1, 1, none⟩ (.bool false)).setCell ⟨S1, 2, none⟩ (.slice none 0 0)).setCell ⟨S1, 3, none⟩ (.slice (some ⟨g, 0, none⟩) 1 c)).setCell ⟨S1, 4, none⟩ (.slice none 0 0)) :=
    (((((Keeps.refl (fun k => k = S1) w2).setCell (p := ⟨S1, 0, none⟩) (fun _ => rfl) _).setCell (p := ⟨S1, 1, none⟩) (fun _ => rfl) _).setCell (p := ⟨S1, 2, none⟩) (fun _ => rfl) _).setCell (p := ⟨S1, 3, none⟩) (fun _ => rfl) _).setCell (p := ⟨S1, 4, none⟩) (fun _ => rfl) _
  have B6 : Below w.heap.size w (((((w2.setCell ⟨S1, 0, none⟩ (.int .i64 0)).setCell ⟨S1, 1, none⟩ (.bool false)).setCell ⟨S1, 2, none⟩ (.slice none 0 0)).setCell ⟨S1, 3, none⟩ (.slice (some ⟨g, 0, none⟩) 1 c)).setCell ⟨S1, 4, none⟩ (.slice none 0 0)) := by
    have sz := HS.out
    have hg : w.heap.size ≤ S1 := by omega
    exact ((((B2.out.setCell (p := ⟨S1, 0, none⟩) hg _).setCell (p := ⟨S1, 1, none⟩) hg _).setCell (p := ⟨S1, 2, none⟩) hg _).setCell (p := ⟨S1, 3, none⟩) hg _).setCell (p := ⟨S1, 4, none⟩) hg _
  have C6 := K6.cell CG.out gs.out.1
  have G7 := hid G6
  have FIN := hid (And.intro gs.out.2 (And.intro C6 B6))
  clear G6 K6 B6 C6 A1 q0 q1 q2 q3 q4 f0 f1 f2 f3 f4 B2 CG
  generalize (((((w2.setCell ⟨S1, 0, none⟩ (.int .i64 0)).setCell ⟨S1, 1, none⟩ (.bool false)).setCell ⟨S1, 2, none⟩ (.slice none 0 0)).setCell ⟨S1, 3, none⟩ (.slice (some ⟨g, 0, none⟩) 1 c)).setCell ⟨S1, 4, none⟩ (.slice none 0 0)) = w3 at *
  try simp only [Exit.inBlock, Exit.then]
  refine bodyPost_ret (ret_cell_tmp rfl rfl G7.out Tryz.underlying43 rfl infReply) rfl ?_
  exact ⟨g, c, rfl, FIN.out⟩
end Go.Proofs.YtdhhaibefifdmaaGreatDoor
