/- ProofSame, what the walk needs: blocks that a proof's own parts do not lie in; texts that are copied. -/
import Derived.Test.YtmbgfjcmdolggaaDoorSameP
set_option linter.unusedVariables false
set_option linter.unusedSimpArgs false
namespace Go.Proofs.YtmbgfjcmdolggaaDoor
open Go.RowKit PrintLast

def zeroP : Array Value := #[.slice none 0 0, .int .u8 0, .string ⟨#[]⟩, .slice none 0 0]
theorem cell_zero {w : World} {g : Nat} (hz : w.heap[g]? = some (.cells zeroP 30 (0, 0))) {o : Nat} {v : Value} (h : w.cell? ⟨g, o, none⟩ = some v) : zeroP[o]? = some v := by
  rw [cell_of_row w g o _ _ _ hz] at h
  exact h
/-- A proof's parts do not lie in block g. -/
def FarP (g n m : Nat) (A B : Option Addr) : Prop := (∀ ad, A = some ad → 0 < n → ad.block ≠ g) ∧ (∀ ad, B = some ad → 0 < m → ad.block ≠ g)
theorem apart_zero {w w0 : World} {A B B0 : Option Addr} {n c m d d0 g : Nat} {ps : List Part} {kd : UInt8} {key : ByteArray} {row : List UInt8} (h : PrfAt w A n c B m d (ofP ps kd key row)) (hm : m = 0 ∨ B = B0) (hr : BSA w0 B0 d0 row) (hg : w0.heap.size ≤ g) (hz : w.heap[g]? = some (.cells zeroP 30 (0, 0))) : FarP g n m A B := by
  refine ⟨fun ad e hn hb => ?_, fun ad e hn hb => ?_⟩
  · have h0 : 0 < (ofP ps kd key row).side.length := by rw [h.1]; exact hn
    have h1 := h.2.2.2.1.2 ad e 0 h0
    have hs : ((ofP ps kd key row).side[0]).size = 32 := by
      obtain ⟨x, _, hx⟩ := List.mem_map.1 (show (ofP ps kd key row).side[0] ∈ (texts ps).map dig from List.getElem_mem h0)
      rw [← hx]
      exact dig_size x
    obtain ⟨g', o, sp⟩ := ad
    have hsp : sp = none := by simpa [Addr.add] using World.cell?_spot h1
    subst hsp
    have e9 : g' = g := hb
    subst e9
    rw [add_at] at h1
    have h2 := cell_zero hz h1
    have h3 : o + 0 < 4 := (Array.getElem?_eq_some_iff.1 h2).1
    have h4 : o = 0 ∨ o = 1 ∨ o = 2 ∨ o = 3 := by omega
    rcases h4 with rfl | rfl | rfl | rfl
    · cases h2
    · cases h2
    · have h5 : (⟨#[]⟩ : ByteArray) = (ofP ps kd key row).side[0] := Value.string.inj (Option.some.inj h2)
      rw [← h5] at hs
      cases hs
    · cases h2
  · rcases hm with hm | hm
    · omega
    · subst hm
      have h0 : 0 < row.length := by
        have h1 := h.2.1
        have h2 : (ofP ps kd key row).row = if kd % 3 = 0 then [] else row := rfl
        rw [h2] at h1
        split at h1
        · simp at h1; omega
        · omega
      have h3 := World.block_lt_of_cell? w0 _ (hr.2.2.2 ad e 0 h0)
      rw [addr_add_block] at h3
      omega
theorem PrfAt.far {S : Nat → Prop} {w w' : World} {A B : Option Addr} {n c m d : Nat} {p : Prf} (h : PrfAt w A n c B m d p) (hk : Keeps S w w') (hA : ∀ ad, A = some ad → 0 < n → ¬ S ad.block) (hB : ∀ ad, B = some ad → 0 < m → ¬ S ad.block) : PrfAt w' A n c B m d p :=
  ⟨h.1, h.2.1, h.2.2.1, ⟨h.2.2.2.1.1, fun ad e j hj => hk.cell (h.2.2.2.1.2 ad e j hj) (by rw [addr_add_block]; exact hA ad e (by rw [← h.1]; omega))⟩, h.2.2.2.2.keeps' hk (fun ad e hl => hB ad e (by rw [← h.2.1]; exact hl))⟩
theorem PrfAt.off {g : Nat} {w w' : World} {A B : Option Addr} {n c m d : Nat} {p : Prf} (h : PrfAt w A n c B m d p) (hk : Keeps (fun k => k = g) w w') (hf : FarP g n m A B) : PrfAt w' A n c B m d p := h.far hk hf.1 hf.2
/-- A new block of noughts. -/
theorem zero_new {w0 W : World} (h : Below w0.heap.size w0 W) : Below W.heap.size W (W.alloc (.cells zeroP 30)) ∧ ((W.alloc (.cells zeroP 30)).heap[W.heap.size]? = some (.cells zeroP 30 (0, 0)) ∧ w0.heap.size ≤ W.heap.size) ∧ ∀ k, k < W.heap.size → k ≠ W.heap.size :=
  ⟨below_alloc (Below.refl _ W) _, ⟨heap_alloc_new W _, h.size⟩, fun k h => by omega⟩

section
variable {w : World} {ops : Array Oper} {rest : List Oper} {o : Oper} {a : Act} {K : Act → World → Prop} {Q : Exit → Act → World → Prop} {E : Prop}
/-- 'append' of texts to none. -/
theorem wpList_copyT (hgd : o.guard = none) (s x : Operand)
    (ho : o.op = .call { callee := .builtin .append, args := #[s, x], argTypes := #[28, 28] })
    (hs : a.eval s = .slice none 0 0) (A : Option Addr) (M d : Nat) (q : List ByteArray) (hx : a.eval x = .slice A M d) (hM : q.length = M) (hq : TxtAt w A q) (hn : A = none → d = 0)
    (h47 : M ≤ 1000000000)
    (h : ∀ R' c' w', Txt w' w.heap.size R' c' q → Below w.heap.size w w' → wpList Tryd.prog ops Q rest (a.put o.dst (.slice R' M c')) w') : wpList Tryd.prog ops Q (o :: rest) a w := by
  subst hM
  obtain ⟨i0, hi, hz0, hz1, hz2⟩ := info_parts infStr
  refine wpList_app hgd s x 28 ho 9 i0 (.string ⟨#[]⟩) 1 16 Tryd.underlying28 hi hz0 hz1 hz2 rfl (by decide) _ 0 [] hs (World.ownsRow_nil _ _ _ _) A q.length d (txtV q) hx (by simp [txtV]) (fun e => ⟨by rw [hq.1 e]; rfl, hn e⟩) ?_ (txtV_one q) (by unfold maxLen; omega) (by omega) ?_
  · intro ad e j u hu
    have hj : j < q.length := by have := (List.getElem?_eq_some_iff.1 hu).1; simpa [txtV] using this
    rw [hq.2 ad e j hj, ← hu]
    exact (txtV_get q j hj).symm
  · intro A' c' w' k1 k2 k3 _
    rw [Nat.zero_add] at k1 k3 ⊢
    refine h A' c' w' ⟨by simp [txtV], ?_⟩ ((Below.refl _ w).grown k2 (Nat.le_refl _) (fun k hk => by cases hk))
    rcases k1.2 with ⟨e1, e0⟩ | ⟨g', cap', cur', e', _, r⟩
    · exact .inl ⟨e1, e0⟩
    · refine .inr ⟨g', cap', cur', e', ?_, r⟩
      rcases k3 with k3 | k3
      · rw [e'] at k3; cases k3
      · rw [e'] at k3
        simp [Value.ownBlock] at k3
        omega
end
end Go.Proofs.YtmbgfjcmdolggaaDoor
