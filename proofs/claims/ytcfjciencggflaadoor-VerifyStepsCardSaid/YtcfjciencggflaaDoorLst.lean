/- Lists of bytes of the call's own, whose elements are read: append, reverse. -/
import Derived.Test.YtcfjciencggflaaDoorTxt
import Derived.Test.YtcfjciencggflaaDoorMarkB
set_option linter.unusedVariables false
set_option linter.unusedSimpArgs false
namespace Go.Proofs.YtcfjciencggflaaDoor
open Go.RowKit PrintLast

def txs (ps : List Part) : List (List UInt8) := ps.map (·.2.2)
theorem txs_length (ps : List Part) : (txs ps).length = ps.length := by simp [txs]
theorem txs_append (ps qs : List Part) : txs (ps ++ qs) = txs ps ++ txs qs := by simp [txs]
theorem infL8 : (Tryd.prog.info? 22).map (fun i => (i.zero, i.size, i.bytes)) = some (some (.slice none 0 0), 1, 24) := by kernel_rfl
/-- An element's bytes lie elsewhere than the list. -/
def FarB (A : Option Addr) (x : Part) : Prop := 0 < x.2.2.length → ∀ ad bd, A = some ad → x.1 = some bd → bd.block ≠ ad.block
def LB (w : World) (B : Nat) (A : Option Addr) (c : Nat) (ps : List Part) : Prop :=
  w.ownsRow B 22 1 (.slice A ps.length c) ps.length (ps.map partV) ∧ ∀ x ∈ ps, BSA w x.1 x.2.1 x.2.2 ∧ FarB A x
theorem LB.nil (w : World) (B : Nat) : LB w B none 0 [] := ⟨World.ownsRow_nil _ _ _ _, by simp⟩
theorem LB.below {w w' : World} {B c : Nat} {A : Option Addr} {ps : List Part} (h : LB w B A c ps) (hb : Below w.heap.size w w') : LB w' B A c ps :=
  ⟨below_own hb h.1, fun x hx => ⟨(h.2 x hx).1.below hb, (h.2 x hx).2⟩⟩
theorem own_lower {w : World} {B B' e size n : Nat} {v : Value} {xs : List Value} (h : w.ownsRow B e size v n xs) (hB : B' ≤ B) : w.ownsRow B' e size v n xs := by
  refine ⟨h.1, ?_⟩
  rcases h.2 with k | ⟨g, cap, cur, e, hb, r⟩
  · exact .inl k
  · exact .inr ⟨g, cap, cur, e, Nat.le_trans hB hb, r⟩
theorem LB.lower {w : World} {B B' c : Nat} {A : Option Addr} {ps : List Part} (h : LB w B A c ps) (hB : B' ≤ B) : LB w B' A c ps := ⟨own_lower h.1 hB, h.2⟩
theorem LB.place {w : World} {B c : Nat} {A : Option Addr} {ps : List Part} (h : LB w B A c ps) (h0 : 0 < ps.length) : ∃ g, A = some ⟨g, 0, none⟩ := by
  rcases h.1.2 with ⟨_, e0⟩ | ⟨g, cap, cur, e', _⟩
  · omega
  · exact ⟨g, (Value.slice.inj e').1⟩
theorem LB.cap {w : World} {B c : Nat} {A : Option Addr} {ps : List Part} (h : LB w B A c ps) : ps.length ≤ c ∧ c ≤ maxLen := by
  rcases h.1.2 with ⟨e', h0⟩ | ⟨g, cap, cur, e', _, _, h1, h2, _⟩
  · have hc : c = 0 := (Value.slice.inj e').2.2
    exact ⟨by omega, by unfold maxLen; omega⟩
  · have hc : c = cap := (Value.slice.inj e').2.2
    subst hc
    exact ⟨h1, h2⟩
theorem LB.none_ {w : World} {B c : Nat} {A : Option Addr} {ps : List Part} (h : LB w B A c ps) (hA : A = none) : ps = [] ∧ c = 0 := by
  rcases h.1.2 with ⟨e', h0⟩ | ⟨g, cap, cur, e', _⟩
  · exact ⟨List.eq_nil_of_length_eq_zero h0, (Value.slice.inj e').2.2⟩
  · have := (Value.slice.inj e').1
    rw [hA] at this
    cases this
theorem LB.cell {w : World} {B c g : Nat} {ps : List Part} (h : LB w B (some ⟨g, 0, none⟩) c ps) (k : Nat) (hk : k < ps.length) : w.cell? ⟨g, k, none⟩ = some (partV ps[k]) := by
  have h1 := h.1.cells (g := g) rfl k (partV ps[k]) (by simp [hk])
  rwa [add_plain] at h1
theorem LB.elem {w : World} {B c : Nat} {A : Option Addr} {ps : List Part} (h : LB w B A c ps) (k : Nat) (hk : k < ps.length) : BSA w ps[k].1 ps[k].2.1 ps[k].2.2 := (h.2 _ (List.getElem_mem hk)).1
/-- A block of another type beside the list stays. -/
theorem LB.beside {w w' : World} {B c n : Nat} {A : Option Addr} {ps : List Part} (h : LB w B A c ps) (hn : ps.length = n) (hg : w.grownBy w' (Value.slice A n c).ownBlock) {k : Nat} {cs : Array Value} {t : TypeId} {fr : Nat × Nat} (hk : w.heap[k]? = some (.cells cs t fr)) (ht : t ≠ 22) : w'.heap[k]? = some (.cells cs t fr) := by
  subst hn
  refine (hg.block k (lt_of_block hk) (fun e => ?_)).trans hk
  obtain ⟨cur, h1⟩ := own_typ h.1 e.symm
  rw [hk] at h1
  simp at h1
  exact ht h1.2.1

theorem LB.grow {w w' : World} {B c c' : Nat} {R A' : Option Addr} {ps qs : List Part} (hR : LB w B R c ps) (hB : B ≤ w.heap.size) (hq : ∀ q ∈ qs, BSA w q.1 q.2.1 q.2.2 ∧ FarB R q)
    (k1 : w'.ownsRow 0 22 1 (.slice A' (ps.length + qs.length) c') (ps.length + qs.length) (ps.map partV ++ qs.map partV)) (k2 : w.grownBy w' (Value.slice R ps.length c).ownBlock)
    (k3 : (Value.slice A' (ps.length + qs.length) c').ownBlock = (Value.slice R ps.length c).ownBlock ∨ (Value.slice A' (ps.length + qs.length) c').ownBlock = some w.heap.size) : LB w' B A' c' (ps ++ qs) ∧ Below B w w' := by
  have kk : Keeps (fun k => some k = (Value.slice R ps.length c).ownBlock) w w' := (Keeps.refl _ w).grown k2 (fun k e _ => e.symm)
  have el : ∀ x : Part, BSA w x.1 x.2.1 x.2.2 → FarB R x → BSA w' x.1 x.2.1 x.2.2 := fun x hb hf => hb.keeps' kk (fun ad e hl hk => by
    rcases hR.1.2 with ⟨e1, _⟩ | ⟨g, cap, cur, e1, _⟩
    · rw [e1] at hk; cases hk
    · rw [e1] at hk
      have e2 : ad.block = g := by simpa [Value.ownBlock] using hk
      exact hf hl ⟨g, 0, none⟩ ad (Value.slice.inj e1).1 e e2)
  have far : ∀ x : Part, BSA w x.1 x.2.1 x.2.2 → FarB R x → FarB A' x := fun x hb hf hl ad bd e1 e2 e3 => by
    have hlt : bd.block < w.heap.size := by
      have := World.block_lt_of_cell? w _ (hb.2.2.2 bd e2 0 hl)
      rwa [addr_add_block] at this
    rcases k1.2 with ⟨e4, _⟩ | ⟨g', cap', cur', e4, _⟩
    · rw [(Value.slice.inj e4).1] at e1; cases e1
    · have e5 : ad = ⟨g', 0, none⟩ := Option.some.inj (e1.symm.trans (Value.slice.inj e4).1)
      rw [e4] at k3
      rcases k3 with k3 | k3
      · rcases hR.1.2 with ⟨e6, _⟩ | ⟨g, cap, cur, e6, _⟩
        · rw [e6] at k3; cases k3
        · rw [e6] at k3
          have e7 : g' = g := by simpa [Value.ownBlock] using k3
          exact hf hl ⟨g, 0, none⟩ bd (Value.slice.inj e6).1 e2 (by rw [e3, e5]; exact e7)
      · have e7 : g' = w.heap.size := by simpa [Value.ownBlock] using k3
        rw [e5] at e3
        have : bd.block = g' := e3
        omega
  refine ⟨⟨⟨by simp, ?_⟩, fun x hx => ?_⟩, (Below.refl B w).grown k2 hB (fun k hk => (hR.1.lt k hk).1)⟩
  · rcases k1.2 with ⟨e4, e0⟩ | ⟨g', cap', cur', e', _, r⟩
    · exact .inl ⟨by simpa using e4, by simpa using e0⟩
    · refine .inr ⟨g', cap', cur', by simpa using e', ?_, by simpa using r⟩
      rw [e'] at k3
      rcases k3 with k3 | k3
      · exact (hR.1.lt g' (by rw [← k3]; rfl)).1
      · simp [Value.ownBlock] at k3
        omega
  · rcases List.mem_append.1 hx with hx | hx
    · exact ⟨el x (hR.2 x hx).1 (hR.2 x hx).2, far x (hR.2 x hx).1 (hR.2 x hx).2⟩
    · exact ⟨el x (hq x hx).1 (hq x hx).2, far x (hq x hx).1 (hq x hx).2⟩
theorem partV_one (ps : List Part) : ∀ u ∈ ps.map partV, u.oneCell' = true := by
  intro u hu
  obtain ⟨_, _, rfl⟩ := List.mem_map.1 hu
  rfl
section
variable {w : World} {ops : Array Oper} {rest : List Oper} {o : Oper} {a : Act} {K : Act → World → Prop} {Q : Exit → Act → World → Prop} {E : Prop}
/-- 'append' of a list to a list of the call's own. -/
theorem wpList_appL (hgd : o.guard = none) (s x : Operand)
    (ho : o.op = .call { callee := .builtin .append, args := #[s, x], argTypes := #[24, 24] }) (B : Nat) (hB : B ≤ w.heap.size)
    (R : Option Addr) (c N : Nat) (ps : List Part) (hs : a.eval s = .slice R N c) (hN : ps.length = N) (hR : LB w B R c ps) (A : Option Addr) (M d B2 : Nat) (qs : List Part) (hx : a.eval x = .slice A M d) (hM : qs.length = M) (hQ : LB w B2 A d qs) (hfar : ∀ q ∈ qs, FarB R q)
    (h47 : N + M ≤ 1000000000) (T : Nat) (hT : N + M = T)
    (h : ∀ R' c' w', LB w' B R' c' (ps ++ qs) → Below B w w' → w.grownBy w' (Value.slice R N c).ownBlock → wpList Tryd.prog ops Q rest (a.put o.dst (.slice R' T c')) w') : wpList Tryd.prog ops Q (o :: rest) a w := by
  subst hN hM hT
  obtain ⟨i0, hi, hz0, hz1, hz2⟩ := info_parts infL8
  refine wpList_app hgd s x 24 ho 22 i0 (.slice none 0 0) 1 24 Tryd.underlying24 hi hz0 hz1 hz2 rfl (by decide) _ ps.length (ps.map partV) hs (own_lower hR.1 (Nat.zero_le _)) A qs.length d (qs.map partV) hx (by simp) (fun e => by obtain ⟨h1, h2⟩ := hQ.none_ e; exact ⟨by rw [h1]; rfl, h2⟩) ?_ (partV_one qs) (by unfold maxLen; omega) (by omega) ?_
  · intro ad e j u hu
    have hj : j < qs.length := by have := (List.getElem?_eq_some_iff.1 hu).1; simpa using this
    obtain ⟨g, e2⟩ := hQ.place (by omega)
    subst e2
    cases e
    rw [add_plain, hQ.cell j hj, ← hu]
    simp [hj]
  · intro A' c' w' k1 k2 k3 _
    obtain ⟨h1, h2⟩ := hR.grow hB (fun q hq => ⟨(hQ.2 q hq).1, hfar q hq⟩) k1 k2 k3
    exact h A' c' w' h1 h2 k2
theorem step_appL (hgd : o.guard = none) (s x : Operand)
    (ho : o.op = .call { callee := .builtin .append, args := #[s, x], argTypes := #[24, 24] }) (B : Nat) (hB : B ≤ w.heap.size)
    (R : Option Addr) (c N : Nat) (ps : List Part) (hs : a.eval s = .slice R N c) (hN : ps.length = N) (hR : LB w B R c ps) (A : Option Addr) (M d B2 : Nat) (qs : List Part) (hx : a.eval x = .slice A M d) (hM : qs.length = M) (hQ : LB w B2 A d qs) (hfar : ∀ q ∈ qs, FarB R q)
    (h47 : N + M ≤ 1000000000) (T : Nat) (hT : N + M = T)
    (h : ∀ R' c' w', LB w' B R' c' (ps ++ qs) → Below B w w' → w.grownBy w' (Value.slice R N c).ownBlock → K (a.put o.dst (.slice R' T c')) w') :
    if Region.wanted o (yielded ops a.tmps) = true then Oper.wp Tryd.prog o a w K Q else E := by
  subst hN hM hT
  obtain ⟨i0, hi, hz0, hz1, hz2⟩ := info_parts infL8
  refine step_app hgd s x 24 ho 22 i0 (.slice none 0 0) 1 24 Tryd.underlying24 hi hz0 hz1 hz2 rfl (by decide) _ ps.length (ps.map partV) hs (own_lower hR.1 (Nat.zero_le _)) A qs.length d (qs.map partV) hx (by simp) (fun e => by obtain ⟨h1, h2⟩ := hQ.none_ e; exact ⟨by rw [h1]; rfl, h2⟩) ?_ (partV_one qs) (by unfold maxLen; omega) (by omega) ?_
  · intro ad e j u hu
    have hj : j < qs.length := by have := (List.getElem?_eq_some_iff.1 hu).1; simpa using this
    obtain ⟨g, e2⟩ := hQ.place (by omega)
    subst e2
    cases e
    rw [add_plain, hQ.cell j hj, ← hu]
    simp [hj]
  · intro A' c' w' k1 k2 k3 _
    obtain ⟨h1, h2⟩ := hR.grow hB (fun q hq => ⟨(hQ.2 q hq).1, hfar q hq⟩) k1 k2 k3
    exact h A' c' w' h1 h2 k2
end
/-- A list of one that is written out. -/
theorem LB.lit {w : World} {x : Part} (h : BSA w x.1 x.2.1 x.2.2) : LB (w.alloc (.cells #[partV x] 22)) w.heap.size (some ⟨w.heap.size, 0, none⟩) 1 [x] := by
  refine ⟨World.ownsRow_lit (e := 22) (size := 1) w #[partV x] 1 (Nat.le_refl _) (by unfold maxLen; omega) (by simp), fun y hy => ?_⟩
  obtain rfl : y = x := by simpa using hy
  refine ⟨h.below (below_alloc (Below.refl _ w) _), fun hl ad bd e1 e2 e3 => ?_⟩
  have hlt : bd.block < w.heap.size := by
    have := World.block_lt_of_cell? w _ (h.2.2.2 bd e2 0 hl)
    rwa [addr_add_block] at this
  cases e1
  have : bd.block = w.heap.size := e3
  omega
/-- Bytes that were made behind the list lie elsewhere. -/
theorem far_new {w w' : World} {B B' c c' : Nat} {A A' : Option Addr} {ps : List Part} {l : List UInt8} (h : LB w B A c ps) (hr : Row w' B' A' c' l) (hB : w.heap.size ≤ B') : FarB A (A', c', l) := fun hl ad bd e1 e2 e3 => by
  rcases hr.2 with ⟨e4, _⟩ | ⟨g, cap, cur, e4, hb, _⟩
  · rw [show A' = none from (Value.slice.inj e4).1] at e2; cases e2
  · have e5 : bd = ⟨g, 0, none⟩ := Option.some.inj (e2.symm.trans (Value.slice.inj e4).1)
    rcases h.1.2 with ⟨e6, _⟩ | ⟨g2, cap2, cur2, e6, _, hg2, _⟩
    · rw [(Value.slice.inj e6).1] at e1; cases e1
    · have e7 : ad = ⟨g2, 0, none⟩ := Option.some.inj (e1.symm.trans (Value.slice.inj e6).1)
      have := lt_of_block hg2
      rw [e5, e7] at e3
      have : g = g2 := e3
      omega
/-- Bytes that lay there ahead of the list lie elsewhere. -/
theorem far_old {w : World} {g c' : Nat} {A' : Option Addr} {l : List UInt8} (hr : BSA w A' c' l) (hg : w.heap.size ≤ g) : FarB (some ⟨g, 0, none⟩) (A', c', l) := fun hl ad bd e1 e2 e3 => by
  have hlt : bd.block < w.heap.size := by
    have := World.block_lt_of_cell? w _ (hr.2.2.2 bd e2 0 hl)
    rwa [addr_add_block] at this
  cases e1
  have : bd.block = g := e3
  omega
end Go.Proofs.YtcfjciencggflaaDoor
