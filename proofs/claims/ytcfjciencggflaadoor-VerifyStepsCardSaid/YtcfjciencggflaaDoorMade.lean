/- Rows of noughts that make lays; a row of the call's own, over which one byte is written. -/
import Derived.Test.YtcfjciencggflaaDoorNum
import Derived.Deep.OwnRows
import Derived.Laws.OwnMore
set_option linter.unusedVariables false
set_option linter.unusedSimpArgs false
namespace Go.Proofs.YtcfjciencggflaaDoor
open Go.RowKit PrintLast

theorem noughts_row (w : World) {B n : Nat} (hB : B ≤ w.heap.size) (hn : n ≤ maxLen) : Row (w.alloc (.cells (madeCells #[.int .u8 0] n) 5)) B (some ⟨w.heap.size, 0, none⟩) n (List.replicate n 0) := by
  have h := World.ownsRow_lit (e := 5) (size := 1) w (madeCells #[.int .u8 0] n) n hB hn (by rw [Nat.mul_one]; exact size_madeCells _ _)
  rw [toList_madeCells_one] at h
  unfold Row
  have e : bytesV (List.replicate n 0) = List.replicate n (Value.int .u8 0) := by simp [bytesV]
  rw [e, List.length_replicate]
  exact h
theorem noughts_bsa {w0 w : World} (_h : Below w0.heap.size w0 w) {n : Nat} (hn : n ≤ maxLen) : BSA (w.alloc (.cells (madeCells #[.int .u8 0] n) 5)) (some ⟨w.heap.size, 0, none⟩) n (List.replicate n 0) :=
  (noughts_row w (Nat.zero_le _) hn).bsa
theorem Row.heap {w : World} {B c g : Nat} {l : List UInt8} (h : Row w B (some ⟨g, 0, none⟩) c l) : ∃ cur, w.heap[g]? = some (.cells cur 5 (0, 0)) ∧ l.length ≤ cur.size ∧ B ≤ g := by
  have hl := h.1
  rcases h.2 with ⟨h', _⟩ | ⟨g', cap', cur, h', hb, hg, hnc, hcm, hcs, _⟩
  · simp at h'
  · simp only [Value.slice.injEq, Option.some.injEq, Addr.mk.injEq, and_true, true_and] at h'
    obtain ⟨rfl, rfl⟩ := h'
    exact ⟨cur, hg, by omega, hb⟩
theorem Row.set {w : World} {B c g : Nat} {l : List UInt8} (h : Row w B (some ⟨g, 0, none⟩) c l) (k : Nat) (b : UInt8) : Row (w.setCell ⟨g, k, none⟩ (.int .u8 (b.toNat : Int))) B (some ⟨g, 0, none⟩) c (l.set k b) := by
  have h1 := (World.ownsRow.stored h k (.int .u8 (b.toNat : Int))).1
  unfold Row
  have e : bytesV (l.set k b) = (bytesV l).set k (.int .u8 (b.toNat : Int)) := by unfold bytesV; rw [List.map_set]
  rw [e, List.length_set]
  exact h1
/-- So much of a row of n is b. -/
def part (l : List UInt8) (b : UInt8) (k : Nat) : List UInt8 := List.replicate k b ++ l.drop k
theorem part_start (l : List UInt8) (b : UInt8) : part l b 0 = l := by simp [part]
theorem part_length {l : List UInt8} (b : UInt8) {k : Nat} (h : k ≤ l.length) : (part l b k).length = l.length := by simp [part]; omega
theorem part_next {l : List UInt8} (b : UInt8) {k : Nat} (h : k < l.length) : (part l b k).set k b = part l b (k + 1) := by
  unfold part
  rw [List.set_append_right _ _ (by simp), List.length_replicate, Nat.sub_self, List.drop_eq_getElem_cons h, List.set_cons_zero]
  simp [List.replicate_succ', List.append_assoc]
theorem part_all {l : List UInt8} (b : UInt8) : part l b l.length = List.replicate l.length b := by simp [part]
end Go.Proofs.YtcfjciencggflaaDoor
