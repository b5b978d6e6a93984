/- Lists of bytes of the call's own; the walk of the program's Scan. -/
import Derived.Test.YtponofojildbmaaDoorWalB
import Derived.Test.YtponofojildbmaaDoorPartsS
set_option linter.unusedVariables false
set_option linter.unusedSimpArgs false
namespace Go.Proofs.YtponofojildbmaaDoor
open Go.RowKit PrintLast

theorem infP : (Tryd.prog.info? 22).map (fun i => (i.zero, i.size, i.bytes)) = some (some (.slice none 0 0), 1, 24) := by kernel_rfl
def RowP (w : World) (B : Nat) (A : Option Addr) (c : Nat) (ps : List Part) : Prop := w.ownsRow B 22 1 (.slice A ps.length c) ps.length (ps.map partV)
theorem RowP.nil (w : World) (B : Nat) : RowP w B none 0 [] := World.ownsRow_nil _ _ _ _
theorem own_block_of {w : World} {base e size n : Nat} {v : Value} {xs : List Value} (h : w.ownsRow base e size v n xs) {k : Nat} (hk : v.ownBlock = some k) : ∃ cur, w.heap[k]? = some (.cells cur e (0, 0)) := by
  rcases h.2 with ⟨rfl, _⟩ | ⟨g, cap, cur, rfl, _, hg, _⟩
  · cases hk
  · simp [Value.ownBlock] at hk
    subst hk
    exact ⟨cur, hg⟩
/-- A list of bytes, each of the call's own. -/
def Listed (w : World) (B : Nat) (A : Option Addr) (c : Nat) (ps : List Part) : Prop := RowP w B A c ps ∧ ∀ x ∈ ps, Row w B x.1 x.2.1 x.2.2
theorem Listed.nil (w : World) (B : Nat) : Listed w B none 0 [] := ⟨RowP.nil w B, by simp⟩
theorem Listed.below {w w' : World} {B c : Nat} {A : Option Addr} {ps : List Part} (h : Listed w B A c ps) (hb : Below w.heap.size w w') : Listed w' B A c ps :=
  ⟨below_own hb h.1, fun x hx => (h.2 x hx).below hb⟩
theorem Listed.lower {w : World} {B B' c : Nat} {A : Option Addr} {ps : List Part} (h : Listed w B A c ps) (hB : B' ≤ B) : Listed w B' A c ps := by
  refine ⟨⟨h.1.1, ?_⟩, fun x hx => (h.2 x hx).lower hB⟩
  rcases h.1.2 with k | ⟨g, cap, cur, e, hb, r⟩
  · exact .inl k
  · exact .inr ⟨g, cap, cur, e, Nat.le_trans hB hb, r⟩
theorem Listed.parts {w : World} {B c : Nat} {A : Option Addr} {ps : List Part} (h : Listed w B A c ps) : PartsAt w A ps := by
  refine ⟨fun e => ?_, fun ad e j hj => ⟨?_, (h.2 _ (List.getElem_mem hj)).bsa⟩⟩
  · rcases h.1.2 with ⟨_, h0⟩ | ⟨g, cap, cur, e', _⟩
    · exact List.eq_nil_of_length_eq_zero h0
    · rw [e] at e'; cases e'
  · rcases h.1.2 with ⟨e', _⟩ | ⟨g, cap, cur, e', _⟩
    · rw [e] at e'; cases e'
    · have e2 : ad = ⟨g, 0, none⟩ := by simpa [e] using (Value.slice.inj e').1
      subst e2
      exact h.1.cells (g := g) (by rw [e']; rfl) j _ (by simp [hj])
theorem Listed.cap {w : World} {B c : Nat} {A : Option Addr} {ps : List Part} (h : Listed w B A c ps) : ps.length ≤ c ∧ c ≤ maxLen := by
  rcases h.1.2 with ⟨e', h0⟩ | ⟨g, cap, cur, e', _, _, h1, h2, _⟩
  · have hc : c = 0 := (Value.slice.inj e').2.2
    exact ⟨by omega, by unfold maxLen; omega⟩
  · have hc : c = cap := (Value.slice.inj e').2.2
    subst hc
    exact ⟨h1, h2⟩

/-- 'append' of one more to such a list. -/
theorem wpList_appP {w : World} {ops : Array Oper} {rest : List Oper} {o : Oper} {a : Act} {Q : Exit → Act → World → Prop} (hgd : o.guard = none) (s x : Operand)
    (ho : o.op = .call { callee := .builtin .append, args := #[s, x], argTypes := #[25, 25] }) (B : Nat) (hB : B ≤ w.heap.size)
    (R : Option Addr) (c : Nat) (ps : List Part) (hs : a.eval s = .slice R ps.length c) (hR : Listed w B R c ps) (g : Nat) (q : Part) (hx : a.eval x = .slice (some ⟨g, 0, none⟩) 1 1) (hc : w.cell? ⟨g, 0, none⟩ = some (partV q)) (hq : Row w B q.1 q.2.1 q.2.2)
    (h47 : ps.length ≤ 1000000000) (n : Nat) (hn : ps.length + 1 = n)
    (h : ∀ R' c' w', Listed w' B R' c' (ps ++ [q]) → Below B w w' → wpList Tryd.prog ops Q rest (a.put o.dst (.slice R' n c')) w') : wpList Tryd.prog ops Q (o :: rest) a w := by
  subst hn
  obtain ⟨i0, hi, hz0, hz1, hz2⟩ := info_parts infP
  refine wpList_append_own w hgd s x 25 ho B 22 i0 (.slice none 0 0) 1 24 Tryd.underlying25 hi hz0 hz1 hz2 rfl (by decide) _ ps.length (ps.map partV) hs hR.1 ⟨g, 0, none⟩ 1 1 [partV q] hx rfl ?_ ?_ (by unfold maxLen; omega) (by omega) hB ?_
  · intro j u hj
    match j, hj with
    | 0, hj => simp at hj; subst hj; rw [add_plain]; exact hc
  · intro u hu
    simp at hu
    subst hu
    rfl
  · intro v' w' k1 k2 k3
    have hform : ∃ A' c', v' = .slice A' (ps.length + 1) c' := by
      rcases k1.2 with ⟨e, h0⟩ | ⟨g', cap', cur', e', _⟩
      · omega
      · exact ⟨_, _, e'⟩
    obtain ⟨A', c', rfl⟩ := hform
    have keep : ∀ y : Part, Row w B y.1 y.2.1 y.2.2 → Row w' B y.1 y.2.1 y.2.2 := fun y hy => by
      refine World.ownsRow.kept hy k2 ?_
      cases hA : (Value.slice y.1 y.2.2.length y.2.1).ownBlock with
      | none => exact .inl rfl
      | some k =>
        refine .inr (fun e => ?_)
        obtain ⟨cur, h1⟩ := own_block_of hy hA
        obtain ⟨cur', h2⟩ := own_block_of hR.1 e.symm
        rw [h1] at h2
        simp at h2
    refine h A' c' w' ⟨by unfold RowP; simpa using k1, fun y hy => ?_⟩ ((Below.refl B w).grown k2 hB (fun k hk => (hR.1.lt k hk).1))
    simp only [List.mem_append, List.mem_singleton] at hy
    rcases hy with hy | rfl
    · exact keep y (hR.2 y hy)
    · exact keep y hq

/-- What Scan answers. -/
def Scanned (w : World) (p : List UInt8) (e : Ending) (w' : World) : Prop :=
  ∃ R c ps, e = .returned (.tuple #[.slice R ps.length c, .int .i64 ((scanB p).2 : Int)]) ∧ Listed w' w.heap.size R c ps ∧ ps.map (·.2.2) = (scanB p).1 ∧ Below w.heap.size w w'

set_option maxRecDepth 100000 in
set_option maxHeartbeats 3200000 in
theorem scan_any {w : World} (hT : Table w) {A : Option Addr} {c : Nat} {p : List UInt8} (hp : BSA w A c p) (hA : A = none ∨ ∃ g, A = some ⟨g, 0, none⟩) (hb : p.length ≤ 10000000) :
    Calls Tryd.prog 12 #[.slice A p.length c] w (Scanned w p) := by
  rcases hA with rfl | ⟨g, rfl⟩
  · have hc : c = 0 := hp.2.2.1 rfl
    have hl : p = [] := List.eq_nil_of_length_eq_zero (by have := hp.1; omega)
    subst hc hl
    have H := hid (next_any hT hp hb)
    have H0 := hid (show nextB ([] : List UInt8) = none from nextB_short (by decide))
    go_enter Tryd.func12, Tryd.ntmps12
    go_wp2
    go_loopw [4, 5] (fun l i wr => l = .slice none 0 0 ∧ i = .int .i64 0 ∧ w = wr) (fun _ i _ => 0)
    case atStart => exact ⟨rfl, rfl, rfl⟩
    case round =>
      obtain ⟨rfl, rfl, rfl⟩ := hrel
      go_wp2_with fail
      refine H.out.mono ?_
      rintro e w1 ⟨⟨_, v, rfl⟩ | ⟨q, _, _, _, hq, _⟩, b1⟩
      · go_wp2
        go_ret2
        exact ⟨none, 0, [], by rw [scanB_none H0.out]; rfl, Listed.nil _ _, by rw [scanB_none H0.out]; rfl, b1⟩
      · rw [H0.out] at hq; cases hq
  · obtain ⟨n, hn⟩ : ∃ n, n = p.length := ⟨_, rfl⟩
    have hc1 := hp.1
    have hc2 := hp.2.1
    unfold maxLen at hc2
    have HN := hid hn
    rw [← hn] at hc1 hb ⊢
    have HP := hid hp
    have HT := hid hT
    have L0 : Listed w w.heap.size none 0 [] := Listed.nil _ _
    have S0 : Hid (scanB p = (([] : List Part).map (·.2.2) ++ (scanB (p.drop 0)).1, 0 + (scanB (p.drop 0)).2)) := hid (by simp)
    have B0 := Below.refl w.heap.size w
    clear hp hT hn
    go_enter Tryd.func12, Tryd.ntmps12
    go_wp2
    go_loopw [4, 5] (fun l i wr => ∃ (k N c' : Nat) (R : Option Addr) (ps : List Part), k ≤ n ∧ i = .int .i64 k ∧ l = .slice R N c' ∧ Hid (ps.length = N) ∧ N ≤ k ∧ Listed wr w.heap.size R c' ps ∧ Hid (scanB p = (ps.map (·.2.2) ++ (scanB (p.drop k)).1, k + (scanB (p.drop k)).2)) ∧ Below w.heap.size w wr) (fun _ i _ => n - (intOf i).toNat)
    case atStart => exact ⟨0, 0, 0, none, [], Nat.zero_le _, rfl, rfl, hid rfl, Nat.le_refl _, L0, S0, B0⟩
    case round =>
      clear L0 S0 B0
      obtain ⟨k, N, c', R, ps, hk, rfl, rfl, hN, hNk, hL, hS, hB⟩ := hrel
      obtain ⟨m, hm⟩ : ∃ m, n = k + m := ⟨n - k, by omega⟩
      have lm : (p.drop k).length = m := by rw [List.length_drop, ← HN.out]; omega
      have e1 : n - k = m := by omega
      have sB := hB.size
      by_cases hck : c = k
      · have hm0 : m = 0 := by omega
        have hd : p.drop k = [] := List.eq_nil_of_length_eq_zero (by rw [lm, hm0])
        have pk : BSA wr (some ⟨g, 0, none⟩) 0 [] := ⟨by simp, by unfold maxLen; omega, (fun e => by cases e), fun ad e j hj => by simp at hj⟩
        have H := hid (next_any (HT.out.below hB) pk (by simp))
        have hnk : n = k := by omega
        have hnone := scanB_none (show nextB ([] : List UInt8) = none from nextB_short (by decide))
        have hS1 := hS.out
        rw [hd, hnone] at hS1
        have HS1 := hid hS1
        clear hm e1 lm hd hnone hS1 hS hm0
        subst hnk
        subst hck
        go_wp2_with fail
        refine H.out.mono ?_
        rintro e w1 ⟨⟨_, v, rfl⟩ | ⟨q, _, _, _, hq, _⟩, b1⟩
        · have hL1 := hL.below b1
          have B1 := hB.trans (b1.mono sB)
          go_wp2
          go_ret2
          exact ⟨R, c', ps, by rw [HS1.out, hN.out]; simp, hL1, by rw [HS1.out]; simp, B1⟩
        · rw [nextB_short (by decide)] at hq; cases hq
      · have pk := (HP.out.below hB).cut k (by rw [← HN.out]; exact hk)
        rw [Nat.zero_add] at pk
        have H0 := next_any (HT.out.below hB) pk (by rw [lm]; omega)
        rw [lm] at H0
        have H := hid H0
        have LM := hid lm
        have hkm : k + m = n := by omega
        clear hm H0 lm pk
        go_wp2_with fail
        refine H.out.mono ?_
        rintro e w1 ⟨⟨hq, v, rfl⟩ | ⟨q, gq, oq, cq, hq, rfl, q1⟩, b1⟩
        · have hL1 := hL.below b1
          have B1 := hB.trans (b1.mono sB)
          have hS1 := hS.out
          rw [scanB_none hq] at hS1
          have HS1 := hid hS1
          clear hq hS1 hS hL hB b1 H
          go_wp2
          go_ret2
          exact ⟨R, c', ps, by rw [HS1.out, hN.out]; simp, hL1, by rw [HS1.out]; simp, B1⟩
        · have hL1 := hL.below b1
          have B1 := hB.trans (b1.mono sB)
          have q8 := (nextB_len hq).1
          rw [LM.out] at q8
          have hS1 := hS.out
          rw [scanB_some hq, List.drop_drop] at hS1
          have HS1 := hid hS1
          obtain ⟨ql, hql⟩ : ∃ ql, ql = q.length := ⟨_, rfl⟩
          have QL := hid hql
          rw [← hql] at q8
          have HC := clone_gave hql.symm q1 (by omega)
          have H := hid HC
          rw [← hql]
          clear hq hS1 hS hL hB b1 hql HC
          go_wp2_with fail
          refine H.out.mono ?_
          rintro e w2 ⟨A2, c2, rfl, r2, b2⟩
          have sW1 : w.heap.size ≤ w1.heap.size := B1.size
          have B2 := B1.trans (b2.mono sW1)
          have hL2 := hL1.below b2
          have sW2 : w.heap.size ≤ w2.heap.size := B2.size
          have r2' := r2.lower sW1
          rw [← QL.out]
          have al := below_alloc (Below.refl _ w2) (.cells #[.slice A2 ql c2] 22)
          have hL3 := hL2.below al
          have r3 := r2'.below al
          have hc3 : (w2.alloc (.cells #[.slice A2 ql c2] 22)).cell? ⟨w2.heap.size, 0, none⟩ = some (partV (A2, c2, q)) := by
            unfold partV
            rw [show (A2, c2, q).2.2.length = ql from QL.out.symm]
            exact cell_at (heap_alloc_new w2 _) rfl
          have B3 := B2.alloc sW2 (.cells #[.slice A2 ql c2] 22)
          have sW3 := B3.size
          have HKM := hid hkm
          have HC3 := hid hc3
          clear r2 r2' hL1 hL2 b2 B1 B2 al q1 H hkm e1 hc3
          go_wp2_with (refine wpList_appP rfl (.tmp 19) (.tmp 22) rfl w.heap.size sW3 R c' ps (by rw [hN.out]; rfl) hL3 w2.heap.size (A2, c2, q) rfl HC3.out r3 (by rw [hN.out]; omega) (N + 1) (by rw [hN.out]) ?_)
          intro R4 c4 w4 hL4 b4
          have B4 := B3.trans b4
          have HL : Hid ((ps ++ [(A2, c2, q)]).length = N + 1) := hid (by rw [List.length_append, hN.out]; rfl)
          have HS4 : Hid (scanB p = ((ps ++ [(A2, c2, q)]).map (·.2.2) ++ (scanB (p.drop (k + (8 + ql)))).1, (k + (8 + ql)) + (scanB (p.drop (k + (8 + ql)))).2)) := hid (by
            rw [HS1.out, ← QL.out]
            simp only [List.map_append, List.map_cons, List.map_nil, List.append_assoc, List.cons_append, List.nil_append, Nat.add_assoc])
          have hkm := HKM.out
          clear hL3 r3 HC3 B3 b4 HKM
          go_wp2
          go_roundw
          case rel => exact ⟨k + (8 + ql), N + 1, c4, R4, ps ++ [(A2, c2, q)], by omega, by go_num, rfl, HL, by omega, hL4, HS4, B4⟩
          case measure => dsimp only [intOf]; omega
end Go.Proofs.YtponofojildbmaaDoor
