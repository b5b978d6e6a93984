/- Words that the walks of a proof share: bytes as a text, texts onto bytes. -/
import Derived.Test.YtdhhaibefifdmaaGreatDoorPrfA
import Derived.Test.YtdhhaibefifdmaaGreatDoorMarkB
import Derived.Lib.AppendStr
import Derived.Laws.BitsAllLaws
import Derived.Laws.BytesString
set_option linter.unusedVariables false
set_option linter.unusedSimpArgs false
namespace Go.Proofs.YtdhhaibefifdmaaGreatDoor
open Go.RowKit PrintLast

theorem or_byte (a b : Nat) (ha : a < 16777216) (hb : b < 256) : bits .or .i64 ((a : Int) * 256) (b : Int) = ((256 * a + b : Nat) : Int) := by
  have e : (a : Int) * 256 = ((a * 256 : Nat) : Int) := by omega
  rw [e]
  show IntKind.i64.wrap ((BitVec.ofInt 64 ((a * 256 : Nat) : Int) ||| BitVec.ofInt 64 (b : Int)).toNat : Int) = _
  rw [BitVec.toNat_or, ofInt_u64 (a * 256) (by omega), ofInt_u64 b (by omega)]
  have h := Nat.shiftLeft_add_eq_or_of_lt (i := 8) (b := b) (by omega) a
  rw [Nat.shiftLeft_eq] at h
  have h2 : a * 256 ||| b = 256 * a + b := by
    have : a * 2 ^ 8 = a * 256 := rfl
    rw [this] at h
    omega
  rw [h2, IntKind.wrap_i64]
  omega
theorem lits_row (w : World) {B : Nat} (hB : B ≤ w.heap.size) (l : List UInt8) (hl : l.length ≤ 1000) : Row (w.alloc (.cells (bytesV l).toArray 5)) B (some ⟨w.heap.size, 0, none⟩) l.length l :=
  World.ownsRow_lit (e := 5) (size := 1) w (bytesV l).toArray l.length hB (by unfold maxLen; omega) (by simp [bytesV])
theorem Row.grown {w w' : World} {B c : Nat} {A : Option Addr} {l : List UInt8} {row : Option Nat} (h : Row w B A c l) (hg : w.grownBy w' row) (hn : ∀ k, row = some k → k < B) : Row w' B A c l := by
  refine World.ownsRow.kept h hg ?_
  cases hA : (Value.slice A l.length c).ownBlock with
  | none => exact .inl rfl
  | some k =>
    refine .inr (fun e => ?_)
    have h1 := hn k e.symm
    have h2 := (h.lt k hA).1
    omega
/-- 'append' of a string's bytes to a row of the call's own. -/
theorem wpList_appS {w : World} {ops : Array Oper} {rest : List Oper} {o : Oper} {a : Act} {Q : Exit → Act → World → Prop} (hgd : o.guard = none) (s x : Operand)
    (ho : o.op = .call { callee := .builtin .append, args := #[s, x], argTypes := #[22, 9] }) (B : Nat) (hB : B ≤ w.heap.size)
    (R : Option Addr) (c : Nat) (l : List UInt8) (hs : a.eval s = .slice R l.length c) (hR : Row w B R c l) (q : ByteArray) (hx : a.eval x = .string q)
    (h47 : l.length + q.size ≤ 140737488355328) (n : Nat) (hn : l.length + q.size = n)
    (h : ∀ R' c' w', Row w' B R' c' (l ++ q.data.toList) → Below B w w' → wpList Tryz.prog ops Q rest (a.put o.dst (.slice R' n c')) w') : wpList Tryz.prog ops Q (o :: rest) a w := by
  subst hn
  obtain ⟨i0, hi, hz0, hz1, hz2⟩ := info_parts infU8'
  refine Lib.wpList_append_own_string w hgd s x 22 9 ho B 5 i0 Tryz.underlying22 Tryz.underlying9 hi hz0 hz1 hz2 _ l.length (bytesV l) hs hR q hx (by unfold maxLen; omega) h47 hB ?_
  intro v' w' k1 k2 _
  have e1 : bytesV l ++ Lib.strCells q = bytesV (l ++ q.data.toList) := by rw [bytesV_append]; rfl
  rw [e1] at k1
  have hform : ∃ A' c', v' = .slice A' (l.length + q.size) c' := by
    rcases k1.2 with ⟨e, h0⟩ | ⟨g', cap', cur', e', _⟩
    · rw [e, h0]; exact ⟨_, _, rfl⟩
    · exact ⟨_, _, e'⟩
  obtain ⟨A', c', rfl⟩ := hform
  exact h A' c' w' (by unfold Row; rw [List.length_append, bsz]; exact k1) ((Below.refl B w).grown k2 hB (fun k hk => (hR.lt k hk).1))
/-- A slice of bytes that are there, as a string. -/
theorem conv_bsa {w : World} {A : Option Addr} {c : Nat} {l : List UInt8} (h : BSA w A c l) (h0 : 0 < l.length) : (convert 22 9 (.slice A l.length c)).run Tryz.prog w = .ok (.string ⟨l.toArray⟩) w := by
  obtain ⟨ad, rfl, c0⟩ := h.cell 0 h0
  obtain ⟨g, o, sp⟩ := ad
  have hs : sp = none := by simpa [Addr.add] using World.cell?_spot c0
  subst hs
  have hadd : ∀ i, (⟨g, o, none⟩ : Addr).add i = ⟨g, o + i, none⟩ := fun i => by unfold Addr.add; split <;> simp_all
  rw [run_convert_bytes_arg w 22 5 Tryz.underlying22 Tryz.underlying5 g o l.length c (l.map fun x => (x.toNat : Int)) (by simp) (fun i hi => ?_) 9 Tryz.underlying9]
  · congr 2
    unfold strOfNums
    congr 2
    rw [List.map_map]
    conv => rhs; rw [← List.map_id l]
    apply List.map_congr_left
    intro x _
    simp
  · have := h.2.2.2 _ rfl i hi
    rw [hadd] at this
    rw [this]
    simp [List.getD_eq_getElem?_getD, hi]
set_option maxHeartbeats 1600000 in
theorem equal_any {w : World} {A B : Option Addr} {c d n m : Nat} {x y : List UInt8} (h1 : x.length = n) (h2 : y.length = m) (hx : BSA w A c x) (hy : BSA w B d y) (x0 : 0 < x.length) (y0 : 0 < y.length) :
    Calls Tryz.prog 17 #[.slice A n c, .slice B m d] w fun e w' => e = .returned (.bool (decide (x = y))) ∧ w = w' := by
  subst h1 h2
  have k1 := conv_bsa hx x0
  have k2 := conv_bsa hy y0
  have e1 : ((⟨x.toArray⟩ : ByteArray).toList == (⟨y.toArray⟩ : ByteArray).toList) = decide (x = y) := by
    rw [ByteArray.toList_mk, ByteArray.toList_mk, Bool.eq_iff_iff]; simp
  have E1 := hid e1
  clear e1 hx hy x0 y0
  go_enter Tryz.func17, Tryz.ntmps17
  go_wp2
  go_ret
  exact ⟨by first | (rw [← E1.out]; rfl) | (rw [← E1.out]; simp), rfl⟩
theorem Row.form {w : World} {B c : Nat} {A : Option Addr} {l : List UInt8} (h : Row w B A c l) : A = none ∨ ∃ g, A = some ⟨g, 0, none⟩ := by
  rcases h.2 with ⟨e, _⟩ | ⟨g, cap, cur, e, _⟩
  · exact .inl (Value.slice.inj e).1
  · exact .inr ⟨g, (Value.slice.inj e).1⟩

/-- 'string(b)' of bytes, of none as well. -/
theorem conv_any {w : World} {A : Option Addr} {c n : Nat} {l : List UInt8} (hn : l.length = n) (h : BSA w A c l) : (convert 22 9 (.slice A n c)).run Tryz.prog w = .ok (.string (strB l)) w := by
  subst hn
  rcases Nat.eq_zero_or_pos l.length with h0 | h0
  · obtain rfl := List.eq_nil_of_length_eq_zero h0
    rw [run_convert_bytes_string w 22 9 5 A _ c Tryz.underlying22 Tryz.underlying5 Tryz.underlying9]
    cases A <;> simp [Conv.bytesToString, loadCells]
    all_goals rfl
  · exact conv_bsa h h0

set_option maxHeartbeats 1600000 in
theorem equalB_any {w : World} {A B : Option Addr} {c d n m : Nat} {x y : List UInt8} (h1 : x.length = n) (h2 : y.length = m) (hx : BSA w A c x) (hy : BSA w B d y) :
    Calls Tryz.prog 17 #[.slice A n c, .slice B m d] w fun e w' => e = .returned (.bool (decide (x = y))) ∧ w = w' := by
  have k1 := conv_any h1 hx
  have k2 := conv_any h2 hy
  have e1 : ((strB x).toList == (strB y).toList) = decide (x = y) := by
    unfold strB
    rw [ByteArray.toList_mk, ByteArray.toList_mk, Bool.eq_iff_iff]; simp
  have E1 := hid e1
  clear e1 hx hy h1 h2
  go_enter Tryz.func17, Tryz.ntmps17
  go_wp2
  go_ret
  exact ⟨by first | (rw [← E1.out]; rfl) | (rw [← E1.out]; simp), rfl⟩
end Go.Proofs.YtdhhaibefifdmaaGreatDoor
