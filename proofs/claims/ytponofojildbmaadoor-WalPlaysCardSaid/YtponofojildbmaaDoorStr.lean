/- Bytes of a string; append of bytes that may be none; lists of bytes. -/
import Derived.Test.YtponofojildbmaaDoorNum
import Derived.Laws.IdiomStrings
set_option linter.unusedVariables false
set_option linter.unusedSimpArgs false
namespace Go.Proofs.YtponofojildbmaaDoor
open Go.RowKit PrintLast

/-- What the conversion of a string to bytes leaves. -/
theorem str_bsa (w : World) (s : ByteArray) (hs : s.size ≤ maxLen) {fr : Nat × Nat} : BSA (w.drew.alloc (.cells (bytesRow s (grownCap w s.size 0 5)) 5 fr)) (some ⟨w.heap.size, 0, none⟩) (grownCap w s.size 0 5) s.data.toList := by
  have hl : s.data.toList.length = s.size := by simp
  refine ⟨by rw [hl]; exact grownCap_ge w s.size 0 5, grownCap_le_maxLen w s.size 0 5 hs, (fun e => by cases e), fun ad e j hj => ?_⟩
  cases e
  rw [add_plain]
  have hj' : j < s.data.size := by simpa using hj
  exact cell_at (heap_alloc_new w.drew _) (bytesRow_at s _ j hj')

/-- '[]byte(s)' in the walk. -/
theorem wpList_conv {w : World} {ops : Array Oper} {rest : List Oper} {o : Oper} {a : Act} {Q : Exit → Act → World → Prop} (hgd : o.guard = none) (x : Operand)
    (ho : o.op = .convert 9 22 x) (s : ByteArray) (hx : a.eval x = .string s) (hs : s.size ≤ maxLen)
    (h : ∀ g c w', w.heap.size ≤ g → BSA w' (some ⟨g, 0, none⟩) c s.data.toList → Below w.heap.size w w' → wpList Tryd.prog ops Q rest (a.put o.dst (.slice (some ⟨g, 0, none⟩) s.size c)) w') : wpList Tryd.prog ops Q (o :: rest) a w := by
  refine wpList_plain hgd fun K hK' => ?_
  have hrun := run_bytes_of_string (P := Tryd.prog) w 9 22 5 s Tryd.underlying9 Tryd.underlying22 Tryd.underlying5
  unfold Oper.wp
  simp [execOp, ho, hx, hrun, Result.andThen]
  exact hK' _ _ (h w.heap.size _ _ (Nat.le_refl _) (str_bsa w s hs) ((Below.refl w.heap.size w).drew.alloc (Nat.le_refl _) _))

theorem Row.raise {w : World} {A : Option Addr} {n c B : Nat} {l : List UInt8} (h : w.ownsRow 0 5 1 (.slice A n c) l.length (bytesV l)) (hn : n = l.length) (hB : ∀ k, (Value.slice A n c).ownBlock = some k → B ≤ k) : Row w B A c l := by
  subst hn
  refine ⟨h.1, ?_⟩
  rcases h.2 with k | ⟨g, cap, cur, e, hb, r⟩
  · exact .inl k
  · exact .inr ⟨g, cap, cur, e, hB g (by rw [e]; rfl), r⟩

/-- 'append' of bytes that are read, or none, to a row of the call's own. -/
theorem wpList_appO {w : World} {ops : Array Oper} {rest : List Oper} {o : Oper} {a : Act} {Q : Exit → Act → World → Prop} (hgd : o.guard = none) (s x : Operand)
    (ho : o.op = .call { callee := .builtin .append, args := #[s, x], argTypes := #[22, 22] }) (B : Nat) (hB : B ≤ w.heap.size)
    (R : Option Addr) (c : Nat) (l : List UInt8) (hs : a.eval s = .slice R l.length c) (hR : Row w B R c l) (A : Option Addr) (c2 : Nat) (q : List UInt8) (hx : a.eval x = .slice A q.length c2) (hb : BSA w A c2 q)
    (h47 : l.length + q.length ≤ 140737488355328) (n : Nat) (hn : l.length + q.length = n)
    (h : ∀ R' c' w', Row w' B R' c' (l ++ q) → Below B w w' → wpList Tryd.prog ops Q rest (a.put o.dst (.slice R' n c')) w') : wpList Tryd.prog ops Q (o :: rest) a w := by
  subst hn
  refine wpList_app8 22 5 Tryd.underlying22 infU8' hgd s x ho _ l hs (hR.lower (Nat.zero_le _)) A c2 q hx hb h47 ?_
  intro A' c' w' k1 k2 k3 _
  have hfr : ∀ k, (Value.slice R l.length c).ownBlock = some k → B ≤ k := fun k hk => (hR.lt k hk).1
  refine h A' c' w' (Row.raise (by simpa using k1) (by simp) (fun k hk => ?_)) ((Below.refl B w).grown k2 hB hfr)
  rcases k3 with e | e
  · rw [e] at hk; exact hfr k hk
  · rw [e] at hk; simp at hk; omega

/-- Parts that are put one behind the other. -/
abbrev Part := Option Addr × Nat × List UInt8
def partV (x : Part) : Value := .slice x.1 x.2.2.length x.2.1
/-- The block of parts, as the walk lays it. -/
theorem parts_cells (w : World) (ps : List Part) {T : TypeId} : ∀ k (h : k < ps.length), (w.alloc (.cells (ps.map partV).toArray T)).cell? ⟨w.heap.size, k, none⟩ = some (partV ps[k]) := fun k h =>
  cell_at (heap_alloc_new w _) (by simp [h])
theorem lits_bsa (w : World) (l : List UInt8) (hl : l.length ≤ 1000) : BSA (w.alloc (.cells (bytesV l).toArray 5)) (some ⟨w.heap.size, 0, none⟩) l.length l := by
  refine ⟨Nat.le_refl _, by unfold maxLen; omega, (fun e => by cases e), fun ad e j hj => ?_⟩
  cases e
  rw [add_plain]
  exact cell_at (heap_alloc_new w _) (by rw [List.getElem?_toArray]; exact bytesV_get l j hj)
end Go.Proofs.YtponofojildbmaaDoor
