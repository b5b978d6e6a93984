/- The walks of package disk: what each method does to a disk's block and its row of bytes. -/
import Derived.Test.YtdhhaibefifdmaaGreatDoorBase
import Derived.Test.YtdhhaibefifdmaaGreatDoorChecked
import Derived.Outline
import Derived.WalkSpells
import Derived.WalkLawsBesides
set_option linter.unusedVariables false
set_option linter.unusedSimpArgs false
namespace Go.Proofs.YtdhhaibefifdmaaGreatDoor
open Go.RowKit

theorem infoU8 : (Tryz.prog.info? 5).map (fun i => (i.zero, i.size, i.bytes)) = some (some (.int .u8 0), 1, 1) := by kernel_rfl

/-- The cells of a disk. -/
def dcells (v : Value) (safe calls : Nat) (fails : Bool) : Array Value := #[v, .int .i64 (safe : Int), .int .i64 (calls : Int), .bool fails]

theorem call_no {w : World} {b : Nat} {v : Value} {safe : Nat} {t : TypeId} (hb : w.heap[b]? = some (.cells (dcells v safe 0 true) t (0, 0))) :
    Calls Tryz.prog 113 #[.pointer (some ⟨b, 0, none⟩)] w fun e w' => e = .returned (.bool false) ∧ w = w' := by
  have c2 := cell_at hb (i := 2) (v := .int .i64 0) rfl
  have c3 := cell_at hb (i := 3) (v := .bool true) rfl
  clear hb
  go_enter Tryz.func113, Tryz.ntmps113
  go_wp2
  go_ret
  exact ⟨rfl, rfl⟩

theorem call_plain {w : World} {b : Nat} {v : Value} {safe calls : Nat} {t : TypeId} (hb : w.heap[b]? = some (.cells (dcells v safe calls false) t (0, 0))) :
    Calls Tryz.prog 113 #[.pointer (some ⟨b, 0, none⟩)] w fun e w' => e = .returned (.bool true) ∧ w = w' := by
  have c3 := cell_at hb (i := 3) (v := .bool false) rfl
  clear hb
  go_enter Tryz.func113, Tryz.ntmps113
  go_wp2
  go_ret
  exact ⟨rfl, rfl⟩

theorem call_count {w : World} {b : Nat} {v : Value} {safe calls : Nat} {t : TypeId} (hb : w.heap[b]? = some (.cells (dcells v safe (calls + 1) true) t (0, 0))) (hc : calls + 1 ≤ 9223372036854775807) :
    Calls Tryz.prog 113 #[.pointer (some ⟨b, 0, none⟩)] w fun e w' => e = .returned (.bool true) ∧ w.setCell ⟨b, 2, none⟩ (.int .i64 (calls : Int)) = w' := by
  have c2 := cell_at hb (i := 2) (v := .int .i64 ((calls : Int) + 1)) (by simp [dcells])
  have c3 := cell_at hb (i := 3) (v := .bool true) rfl
  have f2 := free_at hb 2
  clear hb
  have h1 : (((calls : Int) + 1) == 0) = false := by rw [beq_eq_false_iff_ne]; omega
  go_enter Tryz.func113, Tryz.ntmps113
  go_wp2
  go_ret
  exact ⟨rfl, by simp⟩

theorem held_any {w : World} (n most : Int) (h0 : 0 ≤ most) (h1 : most ≤ 9223372036854775807) (h2 : -9223372036854775808 ≤ n) (h3 : n ≤ 9223372036854775807) :
    Calls Tryz.prog 78 #[.int .i64 n, .int .i64 most] w fun e w' => e = .returned (.int .i64 (min (max n 0) most)) ∧ w = w' := by
  by_cases h : n < 0
  · have e : min (max n 0) most = 0 := by omega
    rw [e]
    go_enter Tryz.func78, Tryz.ntmps78
    go_wp2
    go_ret
    exact ⟨rfl, rfl⟩
  · by_cases h' : most < n
    · have e : min (max n 0) most = most := by omega
      rw [e]
      go_enter Tryz.func78, Tryz.ntmps78
      go_wp2
      go_ret
      exact ⟨rfl, rfl⟩
    · have e : min (max n 0) most = n := by omega
      rw [e]
      go_enter Tryz.func78, Tryz.ntmps78
      go_wp2
      go_ret
      exact ⟨rfl, rfl⟩

set_option maxHeartbeats 400000 in
theorem clone_any {w : World} {A : Option Addr} {c : Nat} {l : List UInt8} (h : BSA w A c l) (hbig : l.length ≤ 140737488355328) :
    Calls Tryz.prog 24 #[.slice A l.length c] w fun e w' => ∃ A' c', e = .returned (.slice A' l.length c') ∧ w'.ownsRow 0 5 1 (.slice A' l.length c') l.length (bytesV l) ∧ (∀ k, (Value.slice A' l.length c').ownBlock = some k → w.heap.size ≤ k) ∧ Below w.heap.size w w' := by
  have q22 : ∀ (w : World) (a : Option Addr) (n c n' c' : Nat), (binOp .eql 22 (.slice a n c) (.slice none n' c')).run Tryz.prog w = .ok (.bool a.isNone) w := fun w a n c n' c' => Lib.run_eql_slice_nil w _ _ a n c n' c' Tryz.underlying22
  cases A with
  | none =>
    have hc : c = 0 := h.2.2.1 rfl
    have hl : l = [] := List.eq_nil_of_length_eq_zero (by have := h.1; omega)
    subst hc hl
    go_enter Tryz.func24, Tryz.ntmps24
    go_wp2
    go_ret
    exact ⟨none, 0, rfl, World.ownsRow_nil _ _ _ _, fun k hk => by simp [Value.ownBlock] at hk, Below.refl _ _⟩
  | some ad =>
    go_enter Tryz.func24, Tryz.ntmps24
    go_wp2_with (at_builtin; refine wpList_app8 22 5 Tryz.underlying22 infoU8 rfl (.tmp 5) (.tmp 6) rfl _ [] rfl (own_empty w 5 1) (some ad) c l rfl (h.below ((Below.refl _ _).alloc (Nat.le_refl _) _)) (by simpa using hbig) ?_)
    intro A' c' w' h1 h2 h3 h4
    try simp only [List.length_nil, Nat.zero_add, List.nil_append] at h1 h3 ⊢
    go_wp2
    go_ret
    refine ⟨A', c', rfl, h1, fun k hk => ?_, ?_⟩
    · rcases h3 with h3 | h3
      · rw [h3] at hk; simp [Value.ownBlock] at hk; omega
      · rw [h3] at hk; simp at hk; omega
    · exact ((Below.refl _ _).alloc (Nat.le_refl _) _).grown h2 (by simp) (fun k hk => by simp [Value.ownBlock] at hk; omega)
end Go.Proofs.YtdhhaibefifdmaaGreatDoor
