/- The walks of the program's Encode. -/
import Derived.Test.YtcfjciencggflaaDoorPrfF
set_option linter.unusedVariables false
set_option linter.unusedSimpArgs false
namespace Go.Proofs.YtcfjciencggflaaDoor
open Go.RowKit PrintLast

section
variable {w : World} {ops : Array Oper} {o : Oper} {a : Act} {K : Act → World → Prop} {Q : Exit → Act → World → Prop} {E : Prop}
/-- 'append' of a text's bytes, in a region of open order. -/
theorem step_appS (hgd : o.guard = none) (s x : Operand)
    (ho : o.op = .call { callee := .builtin .append, args := #[s, x], argTypes := #[22, 9] }) (B : Nat) (hB : B ≤ w.heap.size)
    (R : Option Addr) (c N : Nat) (l : List UInt8) (hs : a.eval s = .slice R N c) (hN : l.length = N) (hR : Row w B R c l) (q : ByteArray) (hx : a.eval x = .string q)
    (h47 : N + q.size ≤ 140737488355328)
    (h : ∀ R' c' w', Row w' B R' c' (l ++ q.data.toList) → Below B w w' → K (a.put o.dst (.slice R' (N + q.size) c')) w') :
    if Region.wanted o (yielded ops a.tmps) = true then Oper.wp Tryd.prog o a w K Q else E := by
  subst hN
  have hw : Region.wanted o (yielded ops a.tmps) = true := by simp [Region.wanted, hgd]
  rw [if_pos hw]
  obtain ⟨i0, hi, hz0, hz1, hz2⟩ := info_parts infU8'
  obtain ⟨v', w', hrun, k1, k2, _⟩ := Lib.run_append_own_string (P := Tryd.prog) w B 22 9 o.type 5 i0 Tryd.underlying22 Tryd.underlying9 hi hz0 hz1 hz2 _ l.length (bytesV l) hR q (by unfold maxLen; omega) h47 hB
  have e1 : bytesV l ++ Lib.strCells q = bytesV (l ++ q.data.toList) := by rw [bytesV_append]; rfl
  rw [e1] at k1
  have hform : ∃ A' c', v' = .slice A' (l.length + q.size) c' := by
    rcases k1.2 with ⟨e, h0⟩ | ⟨g', cap', cur', e', _⟩
    · rw [e, h0]; exact ⟨_, _, rfl⟩
    · exact ⟨_, _, e'⟩
  obtain ⟨A', c', rfl⟩ := hform
  have fin := h A' c' w' (by unfold Row; rw [List.length_append, bsz]; exact k1) ((Below.refl B w).grown k2 hB (fun k hk => (hR.lt k hk).1))
  unfold Oper.wp
  simp [execOp, ho, resolve, invoke, builtin, hs, hx, hrun, Result.andThen]
  exact fin
/-- 'append' of bytes that are read, or none, in a region of open order. -/
theorem step_appO (hgd : o.guard = none) (s x : Operand)
    (ho : o.op = .call { callee := .builtin .append, args := #[s, x], argTypes := #[22, 22] }) (B : Nat) (hB : B ≤ w.heap.size)
    (R : Option Addr) (c N : Nat) (l : List UInt8) (hs : a.eval s = .slice R N c) (hN : l.length = N) (hR : Row w B R c l) (A : Option Addr) (c2 m : Nat) (q : List UInt8) (hx : a.eval x = .slice A m c2) (hm : q.length = m) (hb : BSA w A c2 q)
    (h47 : N + m ≤ 140737488355328)
    (h : ∀ R' c' w', Row w' B R' c' (l ++ q) → Below B w w' → K (a.put o.dst (.slice R' (N + m) c')) w') :
    if Region.wanted o (yielded ops a.tmps) = true then Oper.wp Tryd.prog o a w K Q else E := by
  subst hN hm
  refine step_app8 22 5 Tryd.underlying22 infU8' hgd s x ho _ l hs (hR.lower (Nat.zero_le _)) A c2 q hx hb h47 ?_
  intro A' c' w' k1 k2 k3 _
  have hfr : ∀ k, (Value.slice R l.length c).ownBlock = some k → B ≤ k := fun k hk => (hR.lt k hk).1
  refine h A' c' w' (Row.raise (by simpa using k1) (by simp) (fun k hk => ?_)) ((Below.refl B w).grown k2 hB hfr)
  rcases k3 with e | e
  · rw [e] at hk; exact hfr k hk
  · rw [e] at hk; simp at hk; omega
end

/-- What count leaves that puts a number's two bytes behind bytes. -/
def Onto (w : World) (B : Nat) (L : List UInt8) (x : Ending) (w' : World) : Prop := ∃ R' c' N, Hid (N = L.length) ∧ x = .returned (.slice R' N c') ∧ Row w' B R' c' L ∧ Below B w w'
set_option maxHeartbeats 1600000 in
theorem put_count {w : World} {B c N n : Nat} {R : Option Addr} {l : List UInt8} (hN : l.length = N) (hR : Row w B R c l) (hB : B ≤ w.heap.size) (hn : n ≤ 1000000000) (hl : N ≤ 1000000000000) :
    Calls Tryd.prog 65 #[.slice R N c, .int .i64 (n : Int)] w (Onto w B (l ++ numBytes n 2)) := by
  have nb : numBytes n 2 = [UInt8.ofNat (n / 256), UInt8.ofNat (n / 1)] := rfl
  have f1 : ((n : Int) / 256) % 256 = ((UInt8.ofNat (n / 256)).toNat : Int) := byte_div n 8
  have f0 : (n : Int) % 256 = ((UInt8.ofNat (n / 1)).toNat : Int) := by simp
  obtain ⟨x1, h1⟩ : ∃ x, x = UInt8.ofNat (n / 256) := ⟨_, rfl⟩
  obtain ⟨x0, h0⟩ : ∃ x, x = UInt8.ofNat (n / 1) := ⟨_, rfl⟩
  rw [← h1, ← h0] at nb
  rw [← h1] at f1
  rw [← h0] at f0
  rw [nb]
  have al := (Below.refl B w).alloc hB (.cells (bytesV [x1, x0]).toArray 5)
  have q0 := lits_bsa w [x1, x0] (by simp)
  have r0 := hR.below (below_alloc (Below.refl _ w) (.cells (bytesV [x1, x0]).toArray 5))
  have HN := hid hN
  have sz : B ≤ (w.alloc (.cells (bytesV [x1, x0]).toArray 5)).heap.size := Nat.le_trans hB al.size
  clear h1 h0 nb hN hR
  go_enter Tryd.func65, Tryd.ntmps65
  go_wp2_with (refine wpList_appO rfl (.tmp 5) (.tmp 11) rfl B sz R c l (by rw [HN.out]; rfl) r0 _ 2 [x1, x0] rfl q0 (by rw [HN.out]; simp; omega) (N + 2) (by rw [HN.out]; rfl) ?_)
  intro R' c' w' k1 k2
  have al2 := al.trans k2
  go_wp2
  go_ret
  exact ⟨R', c', N + 2, hid (by rw [List.length_append, HN.out]; rfl), rfl, k1, al2⟩
end Go.Proofs.YtcfjciencggflaaDoor
