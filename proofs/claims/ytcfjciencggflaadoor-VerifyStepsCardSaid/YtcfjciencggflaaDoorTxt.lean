/- Lists of texts: read, of the call's own; whether two are alike. -/
import Derived.Test.YtcfjciencggflaaDoorMore
import Derived.Laws.ResultCell
import Derived.Laws.Rows
set_option linter.unusedVariables false
set_option linter.unusedSimpArgs false
namespace Go.Proofs.YtcfjciencggflaaDoor
open Go.RowKit PrintLast

def txtV (l : List ByteArray) : List Value := l.map Value.string
theorem txtV_length (l : List ByteArray) : (txtV l).length = l.length := by simp [txtV]
theorem txtV_get (l : List ByteArray) (j : Nat) (h : j < l.length) : (txtV l)[j]? = some (.string l[j]) := by simp [txtV, h]
theorem txtV_one (l : List ByteArray) : ∀ u ∈ txtV l, u.oneCell' = true := by
  intro u hu
  obtain ⟨_, _, rfl⟩ := List.mem_map.1 hu
  rfl
/-- Texts that are read. -/
def TxtAt (w : World) (A : Option Addr) (l : List ByteArray) : Prop := (A = none → l = []) ∧ ∀ ad, A = some ad → ∀ j (h : j < l.length), w.cell? (ad.add j) = some (.string l[j])
theorem TxtAt.nil (w : World) : TxtAt w none [] := ⟨fun _ => rfl, fun ad e => by cases e⟩
theorem TxtAt.below {w w' : World} {A : Option Addr} {l : List ByteArray} (h : TxtAt w A l) (hb : Below w.heap.size w w') : TxtAt w' A l := ⟨h.1, fun ad e j hj => below_cell hb (h.2 ad e j hj)⟩
theorem TxtAt.at_ {w : World} {A : Option Addr} {l : List ByteArray} (h : TxtAt w A l) (k : Nat) (hk : k < l.length) : ∃ g o, A = some ⟨g, o, none⟩ ∧ w.cell? ⟨g, o + k, none⟩ = some (.string l[k]) := by
  cases A with
  | none => have := h.1 rfl; subst this; simp at hk
  | some ad =>
    have h1 := h.2 ad rfl k hk
    obtain ⟨g, o, sp⟩ := ad
    have hs : sp = none := by
      have g1 := h.2 _ rfl 0 (by omega)
      simpa [Addr.add] using World.cell?_spot g1
    subst hs
    rw [add_at] at h1
    exact ⟨g, o, rfl, h1⟩
/-- Texts of the call's own. -/
def Txt (w : World) (B : Nat) (A : Option Addr) (c : Nat) (l : List ByteArray) : Prop := w.ownsRow B 9 1 (.slice A l.length c) l.length (txtV l)
theorem Txt.nil (w : World) (B : Nat) : Txt w B none 0 [] := World.ownsRow_nil _ _ _ _
theorem Txt.below {w w' : World} {B c : Nat} {A : Option Addr} {l : List ByteArray} (h : Txt w B A c l) (hb : Below w.heap.size w w') : Txt w' B A c l := below_own hb h
theorem Txt.lower {w : World} {B B' c : Nat} {A : Option Addr} {l : List ByteArray} (h : Txt w B A c l) (hB : B' ≤ B) : Txt w B' A c l := by
  refine ⟨h.1, ?_⟩
  rcases h.2 with k | ⟨g, cap, cur, e, hb, r⟩
  · exact .inl k
  · exact .inr ⟨g, cap, cur, e, Nat.le_trans hB hb, r⟩
theorem Txt.at_ {w : World} {B c : Nat} {A : Option Addr} {l : List ByteArray} (h : Txt w B A c l) : TxtAt w A l := by
  refine ⟨fun e => ?_, fun ad e j hj => ?_⟩
  · rcases h.2 with ⟨_, h0⟩ | ⟨g, cap, cur, e', _⟩
    · exact List.eq_nil_of_length_eq_zero h0
    · rw [e] at e'; cases e'
  · rcases h.2 with ⟨e', _⟩ | ⟨g, cap, cur, e', _⟩
    · rw [e] at e'; cases e'
    · have e2 : ad = ⟨g, 0, none⟩ := by simpa [e] using (Value.slice.inj e').1
      subst e2
      exact h.cells (g := g) (by rw [e']; rfl) j _ (txtV_get l j hj)
theorem Txt.cap {w : World} {B c : Nat} {A : Option Addr} {l : List ByteArray} (h : Txt w B A c l) : l.length ≤ c ∧ c ≤ maxLen := by
  rcases h.2 with ⟨e', h0⟩ | ⟨g, cap, cur, e', _, _, h1, h2, _⟩
  · have hc : c = 0 := (Value.slice.inj e').2.2
    exact ⟨by omega, by unfold maxLen; omega⟩
  · have hc : c = cap := (Value.slice.inj e').2.2
    subst hc
    exact ⟨h1, h2⟩
theorem own_typ {w : World} {base e size n : Nat} {v : Value} {xs : List Value} (h : w.ownsRow base e size v n xs) {k : Nat} (hk : v.ownBlock = some k) : ∃ cur, w.heap[k]? = some (.cells cur e (0, 0)) := by
  rcases h.2 with ⟨rfl, _⟩ | ⟨g, cap, cur, rfl, _, hg, _⟩
  · cases hk
  · simp [Value.ownBlock] at hk
    subst hk
    exact ⟨cur, hg⟩
/-- A row of another type's block stays. -/
theorem own_far {w w' : World} {base e size n b : Nat} {v : Value} {xs : List Value} (h : w.ownsRow base e size v n xs) (hk : Keeps (fun k => k = b) w w') {cs : Array Value} {t : TypeId} (hb : w.heap[b]? = some (.cells cs t (0, 0))) (ht : t ≠ e) : w'.ownsRow base e size v n xs :=
  hk.own h (fun k e1 e2 => by
    obtain ⟨cur, h1⟩ := own_typ h e1
    rw [e2, hb] at h1
    simp at h1
    exact ht h1.2)
theorem Txt.far {w w' : World} {B c b : Nat} {A : Option Addr} {l : List ByteArray} (h : Txt w B A c l) (hk : Keeps (fun k => k = b) w w') {cs : Array Value} {t : TypeId} (hb : w.heap[b]? = some (.cells cs t (0, 0))) (ht : t ≠ 9) : Txt w' B A c l := own_far h hk hb ht
theorem Row.far {w w' : World} {B c b : Nat} {A : Option Addr} {l : List UInt8} (h : Row w B A c l) (hk : Keeps (fun k => k = b) w w') {cs : Array Value} {t : TypeId} (hb : w.heap[b]? = some (.cells cs t (0, 0))) (ht : t ≠ 5) : Row w' B A c l := own_far h hk hb ht

theorem infStr : (Tryd.prog.info? 9).map (fun i => (i.zero, i.size, i.bytes)) = some (some (.string ⟨#[]⟩), 1, 16) := by kernel_rfl

section
variable {w : World} {ops : Array Oper} {rest : List Oper} {o : Oper} {a : Act} {K : Act → World → Prop} {Q : Exit → Act → World → Prop} {E : Prop}
/-- 'append' of one text to texts of the call's own. -/
theorem wpList_appT (hgd : o.guard = none) (s x : Operand)
    (ho : o.op = .call { callee := .builtin .append, args := #[s, x], argTypes := #[34, 34] }) (B : Nat) (hB : B ≤ w.heap.size)
    (R : Option Addr) (c N : Nat) (l : List ByteArray) (hs : a.eval s = .slice R N c) (hN : l.length = N) (hR : Txt w B R c l) (g : Nat) (q : ByteArray) (hx : a.eval x = .slice (some ⟨g, 0, none⟩) 1 1) (hc : w.cell? ⟨g, 0, none⟩ = some (.string q))
    (h47 : N ≤ 1000000000)
    (h : ∀ R' c' w', Txt w' B R' c' (l ++ [q]) → w.grownBy w' (Value.slice R N c).ownBlock → (∀ k, (Value.slice R' (N + 1) c').ownBlock = some k → (Value.slice R N c).ownBlock = some k ∨ w.heap.size ≤ k) → wpList Tryd.prog ops Q rest (a.put o.dst (.slice R' (N + 1) c')) w') : wpList Tryd.prog ops Q (o :: rest) a w := by
  subst hN
  obtain ⟨i0, hi, hz0, hz1, hz2⟩ := info_parts infStr
  refine wpList_app hgd s x 34 ho 9 i0 (.string ⟨#[]⟩) 1 16 Tryd.underlying34 hi hz0 hz1 hz2 rfl (by decide) _ l.length (txtV l) hs (by
    refine ⟨hR.1, ?_⟩
    rcases hR.2 with k | ⟨g, cap, cur, e, hb, r⟩
    · exact .inl k
    · exact .inr ⟨g, cap, cur, e, Nat.zero_le _, r⟩) (some ⟨g, 0, none⟩) 1 1 [.string q] hx rfl (fun e => by cases e) ?_ ?_ (by unfold maxLen; omega) (by omega) ?_
  · intro ad e j u hu
    cases e
    match j, hu with
    | 0, hu => simp at hu; subst hu; rw [add_plain]; exact hc
  · intro u hu
    simp at hu
    subst hu
    rfl
  · intro A' c' w' k1 k2 k3 _
    refine h A' c' w' ?_ k2 (fun k hk => ?_)
    · refine ⟨by simp [txtV], ?_⟩
      rcases k1.2 with ⟨_, e0⟩ | ⟨g', cap', cur', e', _, r⟩
      · omega
      · refine .inr ⟨g', cap', cur', by simpa using e', ?_, by simpa [txtV] using r⟩
        rcases k3 with k3 | k3
        · rw [e'] at k3
          exact (hR.lt g' (by rw [← k3]; rfl)).1
        · rw [e'] at k3
          simp [Value.ownBlock] at k3
          omega
    · rcases k3 with k3 | k3
      · exact .inl (k3.symm.trans hk)
      · rw [k3] at hk
        simp at hk
        exact .inr (by omega)
theorem step_appT (hgd : o.guard = none) (s x : Operand)
    (ho : o.op = .call { callee := .builtin .append, args := #[s, x], argTypes := #[34, 34] }) (B : Nat) (hB : B ≤ w.heap.size)
    (R : Option Addr) (c N : Nat) (l : List ByteArray) (hs : a.eval s = .slice R N c) (hN : l.length = N) (hR : Txt w B R c l) (g : Nat) (q : ByteArray) (hx : a.eval x = .slice (some ⟨g, 0, none⟩) 1 1) (hc : w.cell? ⟨g, 0, none⟩ = some (.string q))
    (h47 : N ≤ 1000000000)
    (h : ∀ R' c' w', Txt w' B R' c' (l ++ [q]) → w.grownBy w' (Value.slice R N c).ownBlock → (∀ k, (Value.slice R' (N + 1) c').ownBlock = some k → (Value.slice R N c).ownBlock = some k ∨ w.heap.size ≤ k) → K (a.put o.dst (.slice R' (N + 1) c')) w') :
    if Region.wanted o (yielded ops a.tmps) = true then Oper.wp Tryd.prog o a w K Q else E := by
  subst hN
  obtain ⟨i0, hi, hz0, hz1, hz2⟩ := info_parts infStr
  refine step_app hgd s x 34 ho 9 i0 (.string ⟨#[]⟩) 1 16 Tryd.underlying34 hi hz0 hz1 hz2 rfl (by decide) _ l.length (txtV l) hs (by
    refine ⟨hR.1, ?_⟩
    rcases hR.2 with k | ⟨g, cap, cur, e, hb, r⟩
    · exact .inl k
    · exact .inr ⟨g, cap, cur, e, Nat.zero_le _, r⟩) (some ⟨g, 0, none⟩) 1 1 [.string q] hx rfl (fun e => by cases e) ?_ ?_ (by unfold maxLen; omega) (by omega) ?_
  · intro ad e j u hu
    cases e
    match j, hu with
    | 0, hu => simp at hu; subst hu; rw [add_plain]; exact hc
  · intro u hu
    simp at hu
    subst hu
    rfl
  · intro A' c' w' k1 k2 k3 _
    refine h A' c' w' ?_ k2 (fun k hk => ?_)
    · refine ⟨by simp [txtV], ?_⟩
      rcases k1.2 with ⟨_, e0⟩ | ⟨g', cap', cur', e', _, r⟩
      · omega
      · refine .inr ⟨g', cap', cur', by simpa using e', ?_, by simpa [txtV] using r⟩
        rcases k3 with k3 | k3
        · rw [e'] at k3
          exact (hR.lt g' (by rw [← k3]; rfl)).1
        · rw [e'] at k3
          simp [Value.ownBlock] at k3
          omega
    · rcases k3 with k3 | k3
      · exact .inl (k3.symm.trans hk)
      · rw [k3] at hk
        simp at hk
        exact .inr (by omega)
end
theorem str_beq (a b : ByteArray) : (a.toList == b.toList) = decide (a = b) := by
  cases a; cases b
  rw [ByteArray.toList_mk, ByteArray.toList_mk, Bool.eq_iff_iff]
  simp
theorem str_bne (a b : ByteArray) : (a.toList != b.toList) = !decide (a = b) := by rw [bne, str_beq]
/-- What stands beside texts that grow. -/
theorem Txt.beside {w w' : World} {B c N b : Nat} {R : Option Addr} {l : List ByteArray} (hR : Txt w B R c l) (hN : l.length = N) (hg : w.grownBy w' (Value.slice R N c).ownBlock) {cs : Array Value} {t : TypeId} (hb : w.heap[b]? = some (.cells cs t (0, 0))) (ht : t ≠ 9) : w'.heap[b]? = some (.cells cs t (0, 0)) :=
  (hg.block b (lt_of_block hb) (fun e => by
    subst hN
    obtain ⟨cur, h1⟩ := own_typ hR e.symm
    rw [hb] at h1
    simp at h1
    exact ht h1.2)).trans hb
theorem Txt.grew {w w0 w' : World} {B c N : Nat} {R : Option Addr} {l : List ByteArray} (hR : Txt w B R c l) (hN : l.length = N) (hg : w.grownBy w' (Value.slice R N c).ownBlock) (h0 : Below B w0 w) (hB : B ≤ w.heap.size) : Below B w0 w' := by
  subst hN
  exact h0.grown hg hB (fun k hk => (hR.lt k hk).1)

/-! ### a struct of four cells -/
def set4 (w : World) (g : Nat) (a b c d : Value) : World := (((w.setCell ⟨g, 0, none⟩ a).setCell ⟨g, 1, none⟩ b).setCell ⟨g, 2, none⟩ c).setCell ⟨g, 3, none⟩ d
theorem set4_heap {w : World} {g : Nat} {x y z u a b c d : Value} {t : TypeId} (h : w.heap[g]? = some (.cells #[x, y, z, u] t (0, 0))) : ((((w.setCell ⟨g, 0, none⟩ a).setCell ⟨g, 1, none⟩ b).setCell ⟨g, 2, none⟩ c).setCell ⟨g, 3, none⟩ d).heap[g]? = some (.cells #[a, b, c, d] t (0, 0)) := by
  rw [heap_set (heap_set (heap_set (heap_set h)))]
  rfl
theorem set4_keeps (w : World) (g : Nat) (a b c d : Value) : Keeps (fun k => k = g) w ((((w.setCell ⟨g, 0, none⟩ a).setCell ⟨g, 1, none⟩ b).setCell ⟨g, 2, none⟩ c).setCell ⟨g, 3, none⟩ d) :=
  ((((Keeps.refl (fun k => k = g) w).setCell (p := ⟨g, 0, none⟩) (fun _ => rfl) a).setCell (p := ⟨g, 1, none⟩) (fun _ => rfl) b).setCell (p := ⟨g, 2, none⟩) (fun _ => rfl) c).setCell (p := ⟨g, 3, none⟩) (fun _ => rfl) d
theorem set4_below {w w0 : World} {B g : Nat} (h : Below B w0 w) (hg : B ≤ g) (a b c d : Value) : Below B w0 ((((w.setCell ⟨g, 0, none⟩ a).setCell ⟨g, 1, none⟩ b).setCell ⟨g, 2, none⟩ c).setCell ⟨g, 3, none⟩ d) :=
  (((h.setCell (p := ⟨g, 0, none⟩) hg a).setCell (p := ⟨g, 1, none⟩) hg b).setCell (p := ⟨g, 2, none⟩) hg c).setCell (p := ⟨g, 3, none⟩) hg d
/-- A struct that is handed back by value out of its block, and one more result. -/
theorem ret_cell_tmp {P : Program} {fn : Func} {p u : Tmp} {ty : TypeId} (h : fn.results = #[.cell p ty, .tmp u]) {tmps : Array Value} {w : World} {g : Nat} {cs : Array Value} {t : TypeId} {fr : Nat × Nat} {d : TypeDesc} (hp : tmps.getD p undef = .pointer (some ⟨g, 0, none⟩)) (hg : w.heap[g]? = some (.cells cs t fr))
    (hu : P.underlying ty = some d) (hd : (match d with | .struct _ | .array _ _ => true | _ => false) = true) (hi : (P.info? ty).map (·.size) = some cs.size) :
    (results fn tmps).run P w = .ok (.tuple #[.agg cs, tmps.getD u undef]) w := by
  rw [results_cell_tmp h, hp]
  simp [asAddr, Result.andThen, run_loadVar_row w g t ty cs fr d hg hu hd hi]
theorem alloc3 (w : World) (o1 o2 o3 : Obj) : (((w.alloc o1).alloc o2).alloc o3).heap[w.heap.size]? = some o1 ∧ (((w.alloc o1).alloc o2).alloc o3).heap[w.heap.size + 1]? = some o2 ∧ (((w.alloc o1).alloc o2).alloc o3).heap[w.heap.size + 1 + 1]? = some o3 ∧ Below w.heap.size w (((w.alloc o1).alloc o2).alloc o3) := by
  have s1 : (w.alloc o1).heap.size = w.heap.size + 1 := by simp
  have s2 : ((w.alloc o1).alloc o2).heap.size = w.heap.size + 2 := by simp
  have h1 := heap_alloc_new w o1
  have h2 := heap_alloc_new (w.alloc o1) o2
  have h3 := heap_alloc_new ((w.alloc o1).alloc o2) o3
  rw [s1] at h2
  rw [s2] at h3
  have b1 := below_alloc (Below.refl _ (w.alloc o1)) o2
  have b2 := below_alloc (Below.refl _ ((w.alloc o1).alloc o2)) o3
  exact ⟨below_heap b2 (below_heap b1 h1), below_heap b2 h2, h3, below_alloc (below_alloc (below_alloc (Below.refl _ w) o1) o2) o3⟩
end Go.Proofs.YtcfjciencggflaaDoor
