import Derived.Test.YtdhhaibefifdmaaGreatDoorMore
import Derived.Laws.ResultCell
import Derived.Laws.Rows
set_option linter.unusedVariables false
set_option linter.unusedSimpArgs false
/- Lists of texts: read, of the call's own; whether two are alike. -/
namespace Go.Proofs.YtdhhaibefifdmaaGreatDoor
open Go.RowKit PrintLast

def txtV (l : List ByteArray) : List Value := l.map Value.string
theorem txtV_length (l : List ByteArray) : (txtV l).length = l.length := by simp [txtV]
theorem txtV_get (l : List ByteArray) (j : Nat) (h : j < l.length) : (txtV l)[j]? = some (.string l[j]) := by simp [txtV, h]
theorem txtV_one (l : List ByteArray) : ∀ u ∈ txtV l, u.oneCell' = true := by
  intro u hu
  obtain ⟨_, _, rfl⟩ := List.mem_map.1 hu
  rfl
/-- Texts that are read. -/
def TxtAt (w : World) (A : Option Addr) (l : List ByteArray) : Prop := (A = none → l = []) ∧ ∀ ad, A = some ad → ∀ j (h : j < l.length), w.cell? (ad.add j) = some (.string l[j])
theorem TxtAt.nil (w : World) : TxtAt w none [] := ⟨fun _ => rfl, fun ad e => by cases e⟩
theorem TxtAt.below {w w' : World} {A : Option Addr} {l : List ByteArray} (h : TxtAt w A l) (hb : Below w.heap.size w w') : TxtAt w' A l := ⟨h.1, fun ad e j hj => below_cell hb (h.2 ad e j hj)⟩
theorem TxtAt.at_ {w : World} {A : Option Addr} {l : List ByteArray} (h : TxtAt w A l) (k : Nat) (hk : k < l.length) : ∃ g o, A = some ⟨g, o, none⟩ ∧ w.cell? ⟨g, o + k, none⟩ = some (.string l[k]) := by
  cases A with
  | none => have := h.1 rfl; subst this; simp at hk
  | some ad =>
    have h1 := h.2 ad rfl k hk
    obtain ⟨g, o, sp⟩ := ad
    have hs : sp = none := by
      have g1 := h.2 _ rfl 0 (by omega)
      simpa [Addr.add] using World.cell?_spot g1
    subst hs
    rw [add_at] at h1
    exact ⟨g, o, rfl, h1⟩
/-- Texts of the call's own. -/
def Txt (w : World) (B : Nat) (A : Option Addr) (c : Nat) (l : List ByteArray) : Prop := w.ownsRow B 9 1 (.slice A l.length c) l.length (txtV l)
theorem Txt.nil (w : World) (B : Nat) : Txt w B none 0 [] := World.ownsRow_nil _ _ _ _
theorem Txt.below {w w' : World} {B c : Nat} {A : Option Addr} {l : List ByteArray} (h : Txt w B A c l) (hb : Below w.heap.size w w') : Txt w' B A c l := below_own hb h
theorem Txt.lower {w : World} {B B' c : Nat} {A : Option Addr} {l : List ByteArray} (h : Txt w B A c l) (hB : B' ≤ B) : Txt w B' A c l := by
  refine ⟨h.1, ?_⟩
  rcases h.2 with k | ⟨g, cap, cur, e, hb, r⟩
  · exact .inl k
  · exact .inr ⟨g, cap, cur, e, Nat.le_trans hB hb, r⟩
theorem Txt.at_ {w : World} {B c : Nat} {A : Option Addr} {l : List ByteArray} (h : Txt w B A c l) : TxtAt w A l := by
  refine ⟨fun e => ?_, fun ad e j hj => ?_⟩
  · rcases h.2 with ⟨_, h0⟩ | ⟨g, cap, cur, e', _⟩
    · exact List.eq_nil_of_length_eq_zero h0
    · rw [e] at e'; cases e'
  · rcases h.2 with ⟨e', _⟩ | ⟨g, cap, cur, e', _⟩
    · rw [e] at e'; cases e'
    · have e2 : ad = ⟨g, 0, none⟩ := by simpa [e] using (Value.slice.inj e').1
      subst e2
      exact h.cells (g := g) (by rw [e']; rfl) j _ (txtV_get l j hj)
theorem Txt.cap {w : World} {B c : Nat} {A : Option Addr} {l : List ByteArray} (h : Txt w B A c l) : l.length ≤ c ∧ c ≤ maxLen := by
  rcases h.2 with ⟨e', h0⟩ | ⟨g, cap, cur, e', _, _, h1, h2, _⟩
  · have hc : c = 0 := (Value.slice.inj e').2.2
    exact ⟨by omega, by unfold maxLen; omega⟩
  · have hc : c = cap := (Value.slice.inj e').2.2
    subst hc
    exact ⟨h1, h2⟩
theorem own_typ {w : World} {base e size n : Nat} {v : Value} {xs : List Value} (h : w.ownsRow base e size v n xs) {k : Nat} (hk : v.ownBlock = some k) : ∃ cur, w.heap[k]? = some (.cells cur e (0, 0)) := by
  rcases h.2 with ⟨rfl, _⟩ | ⟨g, cap, cur, rfl, _, hg, _⟩
  · cases hk
  · simp [Value.ownBlock] at hk
    subst hk
    exact ⟨cur, hg⟩
/-- A row of another type's block stays. -/
theorem own_far {w w' : World} {base e size n b : Nat} {v : Value} {xs : List Value} (h : w.ownsRow base e size v n xs) (hk : Keeps (fun k => k = b) w w') {cs : Array Value} {t : TypeId} (hb : w.heap[b]? = some (.cells cs t (0, 0))) (ht : t ≠ e) : w'.ownsRow base e size v n xs :=
  hk.own h (fun k e1 e2 => by
    obtain ⟨cur, h1⟩ := own_typ h e1
    rw [e2, hb] at h1
    simp at h1
    exact ht h1.2)
theorem Txt.far {w w' : World} {B c b : Nat} {A : Option Addr} {l : List ByteArray} (h : Txt w B A c l) (hk : Keeps (fun k => k = b) w w') {cs : Array Value} {t : TypeId} (hb : w.heap[b]? = some (.cells cs t (0, 0))) (ht : t ≠ 9) : Txt w' B A c l := own_far h hk hb ht
theorem Row.far {w w' : World} {B c b : Nat} {A : Option Addr} {l : List UInt8} (h : Row w B A c l) (hk : Keeps (fun k => k = b) w w') {cs : Array Value} {t : TypeId} (hb : w.heap[b]? = some (.cells cs t (0, 0))) (ht : t ≠ 5) : Row w' B A c l := own_far h hk hb ht

theorem infStr : (Tryz.prog.info? 9).map (fun i => (i.zero, i.size, i.bytes)) = some (some (.string ⟨#[]⟩), 1, 16) := by kernel_rfl

section
variable {w : World} {ops : Array Oper} {rest : List Oper} {o : Oper} {a : Act} {K : Act → World → Prop} {Q : Exit → Act → World → Prop} {E : Prop}
/-- 'append' of one text to texts of the call's own. -/
theorem wpList_appT (hgd : o.guard = none) (s x : Operand)
    (ho : o.op = .call { callee := .builtin .append, args := #[s, x], argTypes := #[41, 41] }) (B : Nat) (hB : B ≤ w.heap.size)
    (R : Option Addr) (c N : Nat) (l : List ByteArray) (hs : a.eval s = .slice R N c) (hN : l.length = N) (hR : Txt w B R c l) (g : Nat) (q : ByteArray) (hx : a.eval x = .slice (some ⟨g, 0, none⟩) 1 1) (hc : w.cell? ⟨g, 0, none⟩ = some (.string q))
    (h47 : N ≤ 1000000000)
    (h : ∀ R' c' w', Txt w' B R' c' (l ++ [q]) → w.grownBy w' (Value.slice R N c).ownBlock → (∀ k, (Value.slice R' (N + 1) c').ownBlock = some k → (Value.slice R N c).ownBlock = some k ∨ w.heap.size ≤ k) → wpList Tryz.prog ops Q rest (a.put o.dst (.slice R' (N + 1) c')) w') : wpList Tryz.prog ops Q (o :: rest) a w := by
  subst hN
  obtain ⟨i0, hi, hz0, hz1, hz2⟩ := info_parts infStr
  refine wpList_app hgd s x 41 ho 9 i0 (.string ⟨#[]⟩) 1 16 Tryz.underlying41 hi hz0 hz1 hz2 rfl (by decide) _ l.length (txtV l) hs (by
    refine ⟨hR.1, ?_⟩
    rcases hR.2 with k | ⟨g, cap, cur, e, hb, r⟩
    · exact .inl k
    · exact .inr ⟨g, cap, cur, e, Nat.zero_le _, r⟩) (some ⟨g, 0, none⟩) 1 1 [.string q] hx rfl (fun e => by cases e) ?_ ?_ (by unfold maxLen; omega) (by omega) ?_
  · intro ad e j u hu
    cases e
    match j, hu with
    | 0, hu => simp at hu; subst hu; rw [add_plain]; exact hc
  · intro u hu
    simp at hu
    subst hu
    rfl
  · intro A' c' w' k1 k2 k3 _
    refine h A' c' w' ?_ k2 (fun k hk => ?_)
    · refine ⟨by simp [txtV], ?_⟩
      rcases k1.2 with ⟨_, e0⟩ | ⟨g', cap', cur', e', _, r⟩
      · omega
      · refine .inr ⟨g', cap', cur', by simpa using e', ?_, by simpa [txtV] using r⟩
        rcases k3 with k3 | k3
        · rw [e'] at k3
          exact (hR.lt g' (by rw [← k3]; rfl)).1
        · rw [e'] at k3
          simp [Value.ownBlock] at k3
          omega
    · rcases k3 with k3 | k3
      · exact .inl (k3.symm.trans hk)
      · rw [k3] at hk
        simp at hk
        exact .inr (by omega)
theorem step_appT (hgd : o.guard = none) (s x : Operand)
    (ho : o.op = .call { callee := .builtin .append, args := #[s, x], argTypes := #[41, 41] }) (B : Nat) (hB : B ≤ w.heap.size)
    (R : Option Addr) (c N : Nat) (l : List ByteArray) (hs : a.eval s = .slice R N c) (hN : l.length = N) (hR : Txt w B R c l) (g : Nat) (q : ByteArray) (hx : a.eval x = .slice (some ⟨g, 0, none⟩) 1 1) (hc : w.cell? ⟨g, 0, none⟩ = some (.string q))
    (h47 : N ≤ 1000000000)
    (h : ∀ R' c' w', Txt w' B R' c' (l ++ [q]) → w.grownBy w' (Value.slice R N c).ownBlock → (∀ k, (Value.slice R' (N + 1) c').ownBlock = some k → (Value.slice R N c).ownBlock = some k ∨ w.heap.size ≤ k) → K (a.put o.dst (.slice R' (N + 1) c')) w') :
    if Region.wanted o (yielded ops a.tmps) = true then Oper.wp Tryz.prog o a w K Q else E := by
  subst hN
  obtain ⟨i0, hi, hz0, hz1, hz2⟩ := info_parts infStr
  refine step_app hgd s x 41 ho 9 i0 (.string ⟨#[]⟩) 1 16 Tryz.underlying41 hi hz0 hz1 hz2 rfl (by decide) _ l.length (txtV l) hs (by
    refine ⟨hR.1, ?_⟩
    rcases hR.2 with k | ⟨g, cap, cur, e, hb, r⟩
    · exact .inl k
    · exact .inr ⟨g, cap, cur, e, Nat.zero_le _, r⟩) (some ⟨g, 0, none⟩) 1 1 [.string q] hx rfl (fun e => by cases e) ?_ ?_ (by unfold maxLen; omega) (by omega) ?_
  · intro ad e j u hu
    cases e
    match j, hu with
    | 0, hu => simp at hu; subst hu; rw [add_plain]; exact hc
  · intro u hu
    simp at hu
    subst hu
    rfl
  · intro A' c' w' k1 k2 k3 _
    refine h A' c' w' ?_ k2 (fun k hk => ?_)
    · refine ⟨by simp [txtV], ?_⟩
      rcases k1.2 with ⟨_, e0⟩ | ⟨g', cap', cur', e', _, r⟩
      · omega
      · refine .inr ⟨g', cap', cur', by simpa using e', ?_, by simpa [txtV] using r⟩
        rcases k3 with k3 | k3
        · rw [e'] at k3
          exact (hR.lt g' (by rw [← k3]; rfl)).1
        · rw [e'] at k3
          simp [Value.ownBlock] at k3
          omega
    · rcases k3 with k3 | k3
      · exact .inl (k3.symm.trans hk)
      · rw [k3] at hk
        simp at hk
        exact .inr (by omega)
end
theorem str_beq (a b : ByteArray) : (a.toList == b.toList) = decide (a = b) := by
  cases a; cases b
  rw [ByteArray.toList_mk, ByteArray.toList_mk, Bool.eq_iff_iff]
  simp
theorem str_bne (a b : ByteArray) : (a.toList != b.toList) = !decide (a = b) := by rw [bne, str_beq]
/-- What stands beside texts that grow. -/
theorem Txt.beside {w w' : World} {B c N b : Nat} {R : Option Addr} {l : List ByteArray} (hR : Txt w B R c l) (hN : l.length = N) (hg : w.grownBy w' (Value.slice R N c).ownBlock) {cs : Array Value} {t : TypeId} (hb : w.heap[b]? = some (.cells cs t (0, 0))) (ht : t ≠ 9) : w'.heap[b]? = some (.cells cs t (0, 0)) :=
  (hg.block b (lt_of_block hb) (fun e => by
    subst hN
    obtain ⟨cur, h1⟩ := own_typ hR e.symm
    rw [hb] at h1
    simp at h1
    exact ht h1.2)).trans hb
theorem Txt.grew {w w0 w' : World} {B c N : Nat} {R : Option Addr} {l : List ByteArray} (hR : Txt w B R c l) (hN : l.length = N) (hg : w.grownBy w' (Value.slice R N c).ownBlock) (h0 : Below B w0 w) (hB : B ≤ w.heap.size) : Below B w0 w' := by
  subst hN
  exact h0.grown hg hB (fun k hk => (hR.lt k hk).1)

/-! ### a struct of four cells -/
def set4 (w : World) (g : Nat) (a b c d : Value) : World := (((w.setCell ⟨g, 0, none⟩ a).setCell ⟨g, 1, none⟩ b).setCell ⟨g, 2, none⟩ c).setCell ⟨g, 3, none⟩ d
theorem set4_heap {w : World} {g : Nat} {x y z u a b c d : Value} {t : TypeId} (h : w.heap[g]? = some (.cells #[x, y, z, u] t (0, 0))) : ((((w.setCell ⟨g, 0, none⟩ a).setCell ⟨g, 1, none⟩ b).setCell ⟨g, 2, none⟩ c).setCell ⟨g, 3, none⟩ d).heap[g]? = some (.cells #[a, b, c, d] t (0, 0)) := by
  rw [heap_set (heap_set (heap_set (heap_set h)))]
  rfl
theorem set4_keeps (w : World) (g : Nat) (a b c d : Value) : Keeps (fun k => k = g) w ((((w.setCell ⟨g, 0, none⟩ a).setCell ⟨g, 1, none⟩ b).setCell ⟨g, 2, none⟩ c).setCell ⟨g, 3, none⟩ d) :=
  ((((Keeps.refl (fun k => k = g) w).setCell (p := ⟨g, 0, none⟩) (fun _ => rfl) a).setCell (p := ⟨g, 1, none⟩) (fun _ => rfl) b).setCell (p := ⟨g, 2, none⟩) (fun _ => rfl) c).setCell (p := ⟨g, 3, none⟩) (fun _ => rfl) d
theorem set4_below {w w0 : World} {B g : Nat} (h : Below B w0 w) (hg : B ≤ g) (a b c d : Value) : Below B w0 ((((w.setCell ⟨g, 0, none⟩ a).setCell ⟨g, 1, none⟩ b).setCell ⟨g, 2, none⟩ c).setCell ⟨g, 3, none⟩ d) :=
  (((h.setCell (p := ⟨g, 0, none⟩) hg a).setCell (p := ⟨g, 1, none⟩) hg b).setCell (p := ⟨g, 2, none⟩) hg c).setCell (p := ⟨g, 3, none⟩) hg d
/-- A struct that is handed back by value out of its block, and one more result. -/
theorem ret_cell_tmp {P : Program} {fn : Func} {p u : Tmp} {ty : TypeId} (h : fn.results = #[.cell p ty, .tmp u]) {tmps : Array Value} {w : World} {g : Nat} {cs : Array Value} {t : TypeId} {fr : Nat × Nat} {d : TypeDesc} (hp : tmps.getD p undef = .pointer (some ⟨g, 0, none⟩)) (hg : w.heap[g]? = some (.cells cs t fr))
    (hu : P.underlying ty = some d) (hd : (match d with | .struct _ | .array _ _ => true | _ => false) = true) (hi : (P.info? ty).map (·.size) = some cs.size) :
    (results fn tmps).run P w = .ok (.tuple #[.agg cs, tmps.getD u undef]) w := by
  rw [results_cell_tmp h, hp]
  simp [asAddr, Result.andThen, run_loadVar_row w g t ty cs fr d hg hu hd hi]
theorem alloc3 (w : World) (o1 o2 o3 : Obj) : (((w.alloc o1).alloc o2).alloc o3).heap[w.heap.size]? = some o1 ∧ (((w.alloc o1).alloc o2).alloc o3).heap[w.heap.size + 1]? = some o2 ∧ (((w.alloc o1).alloc o2).alloc o3).heap[w.heap.size + 1 + 1]? = some o3 ∧ Below w.heap.size w (((w.alloc o1).alloc o2).alloc o3) := by
  have s1 : (w.alloc o1).heap.size = w.heap.size + 1 := by simp
  have s2 : ((w.alloc o1).alloc o2).heap.size = w.heap.size + 2 := by simp
  have h1 := heap_alloc_new w o1
  have h2 := heap_alloc_new (w.alloc o1) o2
  have h3 := heap_alloc_new ((w.alloc o1).alloc o2) o3
  rw [s1] at h2
  rw [s2] at h3
  have b1 := below_alloc (Below.refl _ (w.alloc o1)) o2
  have b2 := below_alloc (Below.refl _ ((w.alloc o1).alloc o2)) o3
  exact ⟨below_heap b2 (below_heap b1 h1), below_heap b2 h2, h3, below_alloc (below_alloc (below_alloc (Below.refl _ w) o1) o2) o3⟩
end Go.Proofs.YtdhhaibefifdmaaGreatDoor

/- The walks of the references' Texts and of slices.Equal over texts. -/
namespace Go.Proofs.YtdhhaibefifdmaaGreatDoor
open Go.RowKit PrintLast

end Go.Proofs.YtdhhaibefifdmaaGreatDoor

/- The walks of the reference's text and Decode. -/
namespace Go.Proofs.YtdhhaibefifdmaaGreatDoor
open Go.RowKit PrintLast

/-- A cut of bytes, whatever its place: the run of the operation, and what it reads as. -/
theorem cut_run {w : World} {A : Option Addr} {c n k h : Nat} {l : List UInt8} (hl : l.length = n) (hb : BSA w A c l) (h1 : k ≤ h) (h2 : h ≤ n) (h0 : 0 < n) :
    ∃ A' c', (∀ w' : World, (Instr.slice 22 (.slice A n c) (some (.int .i64 (k : Int))) (some (.int .i64 (h : Int))) none).run Tryz.prog w' = .ok (.slice A' (h - k) c') w') ∧ (∀ w' : World, BSA w' A c l → BSA w' A' c' ((l.drop k).take (h - k))) ∧ ((l.drop k).take (h - k)).length = h - k := by
  subst hl
  obtain ⟨g, o, rfl⟩ := hb.place h0
  have hc := hb.1
  have hsz : ∀ w' : World, (sizeOf (Tryz.prog.elem 22)).run Tryz.prog w' = .ok 1 w' := fun _ => by kernel_rfl
  have hrun : ∀ w' : World, (Instr.slice 22 (.slice (some ⟨g, o, none⟩) l.length c) (some (.int .i64 (k : Int))) (some (.int .i64 (h : Int))) none).run Tryz.prog w' = .ok (sliced (some ⟨g, o, none⟩) k h c 1) w' := fun w' => by
    rw [run_slice_lh w' 22 (some ⟨g, o, none⟩) l.length c (by kernel_rfl) .i64 .i64 (k : Int) (h : Int) (by omega) (by omega) (by omega), hsz w']
    simp [Result.andThen]
  have hlen : ((l.drop k).take (h - k)).length = h - k := by rw [List.length_take, List.length_drop]; omega
  by_cases hck : c = k
  · have hh : h - k = 0 := by omega
    refine ⟨some ⟨g, o, none⟩, c - k, fun w' => by rw [hrun w']; simp [sliced, hck], fun w' _ => ?_, hlen⟩
    rw [List.eq_nil_of_length_eq_zero (hlen.trans hh), hck, Nat.sub_self]
    exact BSA.none_ g o
  · refine ⟨some ⟨g, o + k, none⟩, c - k, fun w' => by rw [hrun w']; simp [sliced, hck, add_at], fun w' hb' => ?_, hlen⟩
    exact (hb'.cut k (by omega)).head (h - k)

/-- What text answers. -/
def RText (w : World) (q : List UInt8) (k : Nat) (x : Ending) (w' : World) : Prop :=
  (∃ e, textB (q.drop k) = .error e ∧ (e = 2 ∨ e = 3) ∧ x = .returned (.tuple #[.slice none 0 0, .int .i64 0, .int .i64 (e : Int)]) ∧ w = w') ∨
  (∃ A' c' s, textB (q.drop k) = .ok (s, q.drop (k + 2 + s.length)) ∧ k + 2 + s.length ≤ q.length ∧ x = .returned (.tuple #[.slice A' s.length c', .int .i64 ((k + 2 + s.length : Nat) : Int), .int .i64 0]) ∧ Row w' w.heap.size A' c' s ∧ Below w.heap.size w w')

end Go.Proofs.YtdhhaibefifdmaaGreatDoor

/- The walk of the reference's Decode. -/
namespace Go.Proofs.YtdhhaibefifdmaaGreatDoor
open Go.RowKit PrintLast

def none4 : Array Value := #[.slice none 0 0, .int .u8 0, .string ⟨#[]⟩, .slice none 0 0]
/-- The error's number, and the proof. -/
def resB (q : List UInt8) : Nat × Prf :=
  match decB q with
  | .error e => (e, ⟨[], 0, ⟨#[]⟩, []⟩)
  | .ok p => (0, p)
/-- A proof, as the walk lays it. -/
def prfV (A : Option Addr) (c : Nat) (B : Option Addr) (d : Nat) (p : Prf) : Array Value := #[.slice A p.side.length c, .int .u8 (p.kind.toNat : Int), .string p.key, .slice B p.row.length d]
/-- What Decode answers. -/
def Decoded (w : World) (q : List UInt8) (x : Ending) (w' : World) : Prop :=
  ∃ A c B d, x = .returned (.tuple #[.agg (prfV A c B d (resB q).2), .int .i64 ((resB q).1 : Int)]) ∧ Txt w' w.heap.size A c (resB q).2.side ∧ Row w' w.heap.size B d (resB q).2.row ∧ Below w.heap.size w w'
theorem decoded_err {w w' : World} {q : List UInt8} {e : Nat} (h : decB q = .error e) (hb : Below w.heap.size w w') : Decoded w q (.returned (.tuple #[.agg none4, .int .i64 (e : Int)])) w' := by
  have h' : resB q = (e, ⟨[], 0, ⟨#[]⟩, []⟩) := by unfold resB; rw [h]
  unfold Decoded
  rw [h']
  exact ⟨none, 0, none, 0, rfl, Txt.nil _ _, Row.nil _ _, hb⟩
theorem decoded_ok {w w' : World} {q : List UInt8} {p : Prf} (h : decB q = .ok p) {A B : Option Addr} {c d : Nat} (hA : Txt w' w.heap.size A c p.side) (hB : Row w' w.heap.size B d p.row) (hb : Below w.heap.size w w') :
    Decoded w q (.returned (.tuple #[.agg (prfV A c B d p), .int .i64 0])) w' := by
  have h' : resB q = (0, p) := by unfold resB; rw [h]
  unfold Decoded
  rw [h']
  exact ⟨A, c, B, d, rfl, hA, hB, hb⟩

/-! ### what is read, step by step -/
theorem decB_short {q : List UInt8} (h : q.length < 2) : decB q = .error 3 := by unfold decB; rw [if_pos h]
theorem decB_many_ {q : List UInt8} (h : ¬ q.length < 2) (h2 : 256 < readNat (q.take 2)) : decB q = .error 2 := by unfold decB; rw [if_neg h, if_pos h2]
theorem decB_sides {q : List UInt8} {m i : Nat} (h : ¬ q.length < 2) (hm : m = readNat (q.take 2)) (h2 : ¬ 256 < m) (hi : i < m) (h3 : q.length - (2 + 32 * i) < 32) : decB q = .error 3 := by
  unfold decB
  rw [if_neg h, ← hm, if_neg h2, if_pos (by rw [List.length_drop]; omega)]
theorem decB_on {q : List UInt8} {m : Nat} (h : ¬ q.length < 2) (hm : m = readNat (q.take 2)) (h2 : ¬ 256 < m) (h3 : 2 + 32 * m ≤ q.length) : decB q = endB (sidesB m (q.drop 2)) (q.drop (2 + 32 * m)) := by
  unfold decB
  rw [if_neg h, ← hm, if_neg h2, if_neg (by rw [List.length_drop]; omega), List.drop_drop]

theorem four {w : World} {g : Nat} {x y z u : Value} {t : TypeId} (h : w.heap[g]? = some (.cells #[x, y, z, u] t (0, 0))) :
    w.cell? ⟨g, 0, none⟩ = some x ∧ w.cell? ⟨g, 1, none⟩ = some y ∧ w.cell? ⟨g, 2, none⟩ = some z ∧ w.cell? ⟨g, 3, none⟩ = some u ∧ w.frozen? ⟨g, 0, none⟩ = false ∧ w.frozen? ⟨g, 1, none⟩ = false ∧ w.frozen? ⟨g, 2, none⟩ = false ∧ w.frozen? ⟨g, 3, none⟩ = false :=
  ⟨cell_at h rfl, cell_at h rfl, cell_at h rfl, cell_at h rfl, free_at h 0, free_at h 1, free_at h 2, free_at h 3⟩
theorem endB_nil (s : List ByteArray) : endB s [] = .error 3 := rfl
theorem endB_form {s : List ByteArray} {k : UInt8} {r : List UInt8} (h : 2 < k.toNat) : endB s (k :: r) = .error 2 := by simp only [endB]; rw [if_pos h]
theorem endB_other (s : List ByteArray) (r : List UInt8) : endB s (2 :: r) = otherB s 2 r := rfl
theorem endB_own (s : List ByteArray) (r : List UInt8) : endB s (1 :: r) = rowB s 1 ⟨#[]⟩ r := rfl
theorem endB_none (s : List ByteArray) (r : List UInt8) : endB s (0 :: r) = lastB ⟨s, 0, ⟨#[]⟩, []⟩ r := rfl
theorem drop_cons {q : List UInt8} {p : Nat} (h : p < q.length) : q.drop p = q[p] :: q.drop (p + 1) := List.drop_eq_getElem_cons h
/-- What is left behind the key. -/
def tailB (s : List ByteArray) (k : UInt8) (key : ByteArray) (l : List UInt8) : Except Nat Prf := if k = 0 then lastB ⟨s, k, key, []⟩ l else rowB s k key l

end Go.Proofs.YtdhhaibefifdmaaGreatDoor

/- The walks of a proof's reader, further: count, kind. -/
namespace Go.Proofs.YtdhhaibefifdmaaGreatDoor
open Go.RowKit PrintLast

/-- A number of two bytes, not above m: the number, and what is left. -/
def cntB (m : Nat) (l : List UInt8) : Except Nat Nat := if l.length < 2 then .error 3 else if m < readNat (l.take 2) then .error 2 else .ok (readNat (l.take 2))
/-- What count leaves. -/
def Counted (w : World) (b N m : Nat) (l : List UInt8) (x : Ending) (w' : World) : Prop :=
  Keeps (fun k => k = b) w w' ∧ ((∃ e, cntB m l = .error e ∧ (e = 2 ∨ e = 3) ∧ x = .returned (.int .i64 0) ∧ ES w' b e) ∨ (∃ n, cntB m l = .ok n ∧ n ≤ m ∧ x = .returned (.int .i64 (n : Int)) ∧ RS w' b N (l.drop 2)))

set_option maxHeartbeats 1600000 in
theorem count_err {w : World} {b e : Nat} {m : Int} (h : ES w b e) (he : 0 < e) (he2 : e ≤ 3) :
    Calls Tryz.prog 62 #[.pointer (some ⟨b, 0, none⟩), .int .i64 m] w fun x w' => x = .returned (.int .i64 0) ∧ w = w' := by
  have HT := hid (take_err (n := 2) h he he2)
  obtain ⟨v, h1⟩ := h
  have c1 := cell_at h1 (i := 1) (v := .int .i64 (e : Int)) rfl
  have t1 : ((e : Int) == 0) = false := by rw [beq_eq_false_iff_ne]; omega
  have t2 : ((e : Int) != 0) = true := by rw [bne_iff_ne]; omega
  clear h1
  go_enter Tryz.func62, Tryz.ntmps62
  go_wp2_with fail
  refine HT.out.mono ?_
  rintro x w1 ⟨rfl, rfl⟩
  go_wp2
  go_loopw [11] (fun i wr => i = .int .i64 0 ∧ w = wr) (fun _ _ => 0)
  case atStart => exact ⟨rfl, rfl⟩
  case round =>
    obtain ⟨rfl, rfl⟩ := hrel
    go_wp2
    go_ret
    exact ⟨rfl, rfl⟩

set_option maxHeartbeats 1600000 in
theorem count_short {w : World} {b k : Nat} {m : Int} (h : WS w b k) (hk : k < 2) :
    Calls Tryz.prog 62 #[.pointer (some ⟨b, 0, none⟩), .int .i64 m] w fun x w' => x = .returned (.int .i64 0) ∧ ES w' b 3 ∧ Keeps (fun k => k = b) w w' := by
  have HT := hid (take_short (n := 2) h hk (by omega))
  clear h
  go_enter Tryz.func62, Tryz.ntmps62
  go_wp2_with fail
  refine HT.out.mono ?_
  rintro x w1 ⟨rfl, hE, K1⟩
  have HE := hid hE
  obtain ⟨v, h1⟩ := hE
  have c1 := cell_at h1 (i := 1) (v := .int .i64 3) rfl
  clear h1 HT
  go_wp2
  go_loopw [11] (fun i wr => i = .int .i64 0 ∧ w1 = wr) (fun _ _ => 0)
  case atStart => exact ⟨rfl, rfl⟩
  case round =>
    obtain ⟨rfl, rfl⟩ := hrel
    go_wp2
    go_ret
    exact ⟨rfl, HE.out, K1⟩

set_option maxRecDepth 100000 in
set_option maxHeartbeats 3200000 in
theorem count_any {w : World} {b N m : Nat} {l : List UInt8} (h : RS w b N l) (hm : m ≤ 100000) :
    Calls Tryz.prog 62 #[.pointer (some ⟨b, 0, none⟩), .int .i64 (m : Int)] w (Counted w b N m l) := by
  by_cases hl : l.length < 2
  · refine (count_short h.ws hl).mono ?_
    rintro x w' ⟨rfl, h1, h2⟩
    exact ⟨h2, .inl ⟨3, by unfold cntB; rw [if_pos hl], .inr rfl, rfl, h1⟩⟩
  · have HT := hid (take_ok (n := 2) h (by omega) (by omega))
    have HLen := hid hl
    clear h hl
    go_enter Tryz.func62, Tryz.ntmps62
    go_wp2_with fail
    refine HT.out.mono ?_
    rintro x w1 ⟨A1, c1, rfl, r1, hR, K1⟩
    have lt : (l.take 2).length = 2 := by rw [List.length_take]; have := HLen.out; omega
    have hb1 := r1.bsa
    obtain ⟨g, o, rfl⟩ := hb1.place (by omega)
    obtain ⟨p, hp⟩ : ∃ p, p = l.take 2 := ⟨_, rfl⟩
    rw [← hp] at hb1 lt
    have HP := hid hp
    have LT := hid lt
    have HB := hid hb1
    have HR := hid hR
    clear HT r1 hp lt hb1 hR
    go_wp2
    go_loopw [5, 11] (fun v i wr => ∃ k : Nat, k ≤ 2 ∧ i = .int .i64 k ∧ v = .int .i64 (readNat (p.take k) : Int) ∧ w1 = wr) (fun _ i _ => 2 - (intOf i).toNat)
    case atStart => exact ⟨0, Nat.zero_le _, rfl, rfl, rfl⟩
    case round =>
      obtain ⟨k, hk, rfl, rfl, rfl⟩ := hrel
      by_cases hlt : k < 2
      · have t2 : decide ((k : Int) < 2) = true := by simp; omega
        have hkp : k < p.length := by rw [LT.out]; exact hlt
        have ck := HB.out.at_ k hkp
        have e1 : readNat (p.take (k + 1)) = 256 * readNat (p.take k) + p[k].toNat := by rw [List.take_succ_eq_append_getElem hkp, readNat_append]
        have b1 := readNat_lt k (p.take k) (by rw [List.length_take]; omega)
        have b2 : 256 ^ k ≤ 256 ^ 1 := Nat.pow_le_pow_right (by omega) (by omega)
        obtain ⟨u, hu⟩ : ∃ u, u = readNat (p.take k) := ⟨_, rfl⟩
        obtain ⟨y, hy⟩ : ∃ y, y = p[k].toNat := ⟨_, rfl⟩
        have hy2 : y < 256 := by rw [hy]; exact p[k].toNat_lt
        rw [← hu, ← hy] at e1
        rw [← hu] at b1 ⊢
        rw [← hy] at ck
        have hu2 : u < 16777216 := by omega
        have OB := or_byte
        have E1 := hid e1
        clear hu hy e1 b1 b2 hkp
        go_wp2
        go_roundw
        case rel => exact ⟨k + 1, by omega, by go_num, by rw [E1.out, Int.natCast_add, Int.natCast_mul]; rfl, trivial⟩
        case measure => simp [intOf]; omega
      · obtain rfl : k = 2 := by omega
        have HQ := hid (readNat_lt 2 (p.take 2) (by rw [List.length_take, LT.out]; rfl))
        have CN : Hid (cntB m l = if m < readNat (p.take 2) then .error 2 else .ok (readNat (p.take 2))) := hid (by
          unfold cntB
          rw [if_neg HLen.out, HP.out, List.take_take]
          simp)
        obtain ⟨u, hu⟩ : ∃ u, u = readNat (p.take 2) := ⟨_, rfl⟩
        rw [← hu] at HQ CN ⊢
        have hu4 : u < 65536 := by have := HQ.out; simpa using this
        obtain ⟨A, c, h1, h2, h3, h4⟩ := HR.out
        have q1 := cell_at h1 (i := 1) (v := .int .i64 0) rfl
        have f1 := free_at h1 1
        by_cases hbig : m < u
        · have t2 : decide ((m : Int) < (u : Int)) = true := by simp; omega
          have hs := heap_set (i := 1) (v := .int .i64 2) h1
          have FIN : Hid (Counted w b N m l (.returned (.int .i64 0)) (w1.setCell ⟨b, 1, none⟩ (.int .i64 2))) := hid ⟨K1.then (keeps_one w1 b 1 (.int .i64 2)) (fun _ _ e => e), .inl ⟨2, by rw [CN.out, if_pos hbig], .inl rfl, rfl, ⟨_, hs⟩⟩⟩
          clear h1 h2 h3 hs hu
          go_wp2
          go_ret
          exact FIN.out
        · have t2 : decide ((m : Int) < (u : Int)) = false := by simp; omega
          have FIN : Hid (Counted w b N m l (.returned (.int .i64 (u : Int))) w1) := hid ⟨K1, .inr ⟨u, by rw [CN.out, if_neg hbig], by omega, rfl, HR.out⟩⟩
          clear h1 h2 h3 hu
          go_wp2
          go_ret
          exact FIN.out

set_option maxHeartbeats 1600000 in
theorem kind_err {w : World} {b e : Nat} (h : ES w b e) (he : 0 < e) (he2 : e ≤ 3) :
    Calls Tryz.prog 64 #[.pointer (some ⟨b, 0, none⟩)] w fun x w' => x = .returned (.int .u8 0) ∧ w = w' := by
  have HT := hid (take_err (n := 1) h he he2)
  clear h
  go_enter Tryz.func64, Tryz.ntmps64
  go_wp2_with fail
  refine HT.out.mono ?_
  rintro x w1 ⟨rfl, rfl⟩
  go_wp2
  go_ret
  exact ⟨rfl, rfl⟩

/-- What kind leaves. -/
def Kinded (w : World) (b N : Nat) (l : List UInt8) (x : Ending) (w' : World) : Prop :=
  Keeps (fun k => k = b) w w' ∧ ((l = [] ∧ x = .returned (.int .u8 0) ∧ ES w' b 3) ∨ (∃ k r, l = k :: r ∧ 2 < k.toNat ∧ x = .returned (.int .u8 0) ∧ ES w' b 2) ∨ (∃ k r, l = k :: r ∧ k.toNat ≤ 2 ∧ x = .returned (.int .u8 (k.toNat : Int)) ∧ RS w' b N r))

set_option maxHeartbeats 1600000 in
theorem kind_any {w : World} {b N : Nat} {l : List UInt8} (h : RS w b N l) :
    Calls Tryz.prog 64 #[.pointer (some ⟨b, 0, none⟩)] w (Kinded w b N l) := by
  cases l with
  | nil =>
    have HT := hid (take_short (n := 1) h.ws (by simp) (by omega))
    clear h
    go_enter Tryz.func64, Tryz.ntmps64
    go_wp2_with fail
    refine HT.out.mono ?_
    rintro x w1 ⟨rfl, hE, K1⟩
    have FIN : Hid (Kinded w b N [] (.returned (.int .u8 0)) w1) := hid ⟨K1, .inl ⟨rfl, rfl, hE⟩⟩
    clear hE K1 HT
    go_wp2
    go_ret
    exact FIN.out
  | cons k r =>
    have HT := hid (take_ok (n := 1) h (by simp) (by omega))
    clear h
    go_enter Tryz.func64, Tryz.ntmps64
    go_wp2_with fail
    refine HT.out.mono ?_
    rintro x w1 ⟨A1, c1, rfl, r1, hR, K1⟩
    have hb1 := r1.bsa
    obtain ⟨g, o, rfl⟩ := hb1.place (by simp)
    have ck := hb1.at_ 0 (by simp)
    simp only [Nat.add_zero, List.take_succ_cons, List.take_zero, List.getElem_cons_zero] at ck
    have hk := k.toNat_lt
    have HR : Hid (RS w1 b N r) := hid (by simpa using hR)
    obtain ⟨A, c, h1, h2, h3, h4⟩ := HR.out
    have f1 := free_at h1 1
    have q1 := cell_at h1 (i := 1) (v := .int .i64 0) rfl
    by_cases hbig : 2 < k.toNat
    · have t2 : decide ((2 : Int) < (k.toNat : Int)) = true := by simp; omega
      have hs := heap_set (i := 1) (v := .int .i64 2) h1
      have FIN : Hid (Kinded w b N (k :: r) (.returned (.int .u8 0)) (w1.setCell ⟨b, 1, none⟩ (.int .i64 2))) := hid ⟨K1.then (keeps_one w1 b 1 (.int .i64 2)) (fun _ _ e => e), .inr (.inl ⟨k, r, rfl, hbig, rfl, ⟨_, hs⟩⟩)⟩
      clear h1 h2 h3 hs hR hb1 r1 HT K1
      go_wp2
      go_ret
      exact FIN.out
    · have t2 : decide ((2 : Int) < (k.toNat : Int)) = false := by simp; omega
      have FIN : Hid (Kinded w b N (k :: r) (.returned (.int .u8 (k.toNat : Int))) w1) := hid ⟨K1, .inr (.inr ⟨k, r, rfl, by omega, rfl, HR.out⟩)⟩
      clear h1 h2 h3 hR hb1 r1 HT K1
      go_wp2
      go_ret
      exact FIN.out
end Go.Proofs.YtdhhaibefifdmaaGreatDoor

/- A proof's reader, as a state that may have failed: its plain law, and its walks. -/
namespace Go.Proofs.YtdhhaibefifdmaaGreatDoor
open Go.RowKit PrintLast

/-- What is ahead of a reader, or its error. -/
abbrev RO := Except Nat (List UInt8)
def takeO (n : Nat) : RO → List UInt8 × RO
  | .error e => ([], .error e)
  | .ok l => if l.length < n then ([], .error 3) else (l.take n, .ok (l.drop n))
def countO (m : Nat) : RO → Nat × RO
  | .error e => (0, .error e)
  | .ok l => match cntB m l with
    | .error e => (0, .error e)
    | .ok n => (n, .ok (l.drop 2))
def kindO : RO → UInt8 × RO
  | .error e => (0, .error e)
  | .ok [] => (0, .error 3)
  | .ok (k :: r) => if 2 < k.toNat then (0, .error 2) else (k, .ok r)
def sidesO : Nat → RO → List ByteArray × RO
  | 0, o => ([], o)
  | k + 1, o => ((sidesO k o).1 ++ [strB (takeO 32 (sidesO k o).2).1], (takeO 32 (sidesO k o).2).2)
theorem sidesO_length (k : Nat) (o : RO) : (sidesO k o).1.length = k := by
  induction k with
  | zero => rfl
  | succ k ih => simp [sidesO, ih]
/-- What stands at the end: the key, the row, what is left. -/
def restO (k : UInt8) (o : RO) : ByteArray × List UInt8 × RO :=
  if k = 2 then (strB (takeO (countO 4000 o).1 (countO 4000 o).2).1,
    (takeO (countO 4000 (takeO (countO 4000 o).1 (countO 4000 o).2).2).1 (countO 4000 (takeO (countO 4000 o).1 (countO 4000 o).2).2).2).1,
    (takeO (countO 4000 (takeO (countO 4000 o).1 (countO 4000 o).2).2).1 (countO 4000 (takeO (countO 4000 o).1 (countO 4000 o).2).2).2).2)
  else if k = 1 then (⟨#[]⟩, (takeO (countO 4000 o).1 (countO 4000 o).2).1, (takeO (countO 4000 o).1 (countO 4000 o).2).2)
  else (⟨#[]⟩, [], o)
def lastO : RO → RO
  | .error e => .error e
  | .ok [] => .ok []
  | .ok (_ :: _) => .error 2
def progB (q : List UInt8) : Nat × Prf :=
  match lastO (restO (kindO (sidesO (countO 256 (.ok q)).1 (countO 256 (.ok q)).2).2).1 (kindO (sidesO (countO 256 (.ok q)).1 (countO 256 (.ok q)).2).2).2).2.2 with
  | .error e => (e, ⟨[], 0, ⟨#[]⟩, []⟩)
  | .ok _ => (0, ⟨(sidesO (countO 256 (.ok q)).1 (countO 256 (.ok q)).2).1, (kindO (sidesO (countO 256 (.ok q)).1 (countO 256 (.ok q)).2).2).1,
      (restO (kindO (sidesO (countO 256 (.ok q)).1 (countO 256 (.ok q)).2).2).1 (kindO (sidesO (countO 256 (.ok q)).1 (countO 256 (.ok q)).2).2).2).1,
      (restO (kindO (sidesO (countO 256 (.ok q)).1 (countO 256 (.ok q)).2).2).1 (kindO (sidesO (countO 256 (.ok q)).1 (countO 256 (.ok q)).2).2).2).2.1⟩)

/-! ### it reads as the document -/
theorem sidesO_err (k e : Nat) : (sidesO k (.error e)).2 = .error e := by
  induction k with
  | zero => rfl
  | succ k ih => simp [sidesO, ih, takeO]
theorem sidesO_ok (k : Nat) (l : List UInt8) (h : 32 * k ≤ l.length) : sidesO k (.ok l) = (sidesB k l, .ok (l.drop (32 * k))) := by
  induction k with
  | zero => simp [sidesO, sidesB]
  | succ k ih =>
    rw [sidesO, ih (by omega), sidesB_next]
    simp only [takeO]
    rw [if_neg (by rw [List.length_drop]; omega), List.drop_drop]
    rfl
theorem sidesO_short (k : Nat) (l : List UInt8) (h : l.length < 32 * k) : (sidesO k (.ok l)).2 = .error 3 := by
  induction k with
  | zero => omega
  | succ k ih =>
    by_cases h2 : l.length < 32 * k
    · rw [sidesO, ih h2]; rfl
    · rw [sidesO, sidesO_ok k l (by omega)]
      simp only [takeO]
      rw [if_pos (by rw [List.length_drop]; omega)]
theorem countO_textB (l : List UInt8) : (takeO (countO 4000 (.ok l)).1 (countO 4000 (.ok l)).2) = match textB l with
    | .error e => ([], .error e)
    | .ok (s, r) => (s, .ok r) := by
  unfold countO cntB textB
  by_cases h1 : l.length < 2
  · simp [h1, takeO]
  · by_cases h2 : 4000 < readNat (l.take 2)
    · simp only [if_neg h1, if_pos h2]; rfl
    · simp only [if_neg h1, if_neg h2, takeO]
      by_cases h3 : (l.drop 2).length < readNat (l.take 2)
      · simp only [if_pos h3]
      · simp only [if_neg h3]
theorem takeO_err (n e : Nat) : takeO n (.error e) = ([], .error e) := rfl
theorem countO_err (n e : Nat) : countO n (.error e) = (0, .error e) := rfl
theorem kindO_err (e : Nat) : kindO (.error e) = (0, .error e) := rfl
theorem restO_err (e : Nat) : (restO 0 (.error e)).2.2 = .error e := rfl
theorem progB_res (q : List UInt8) : progB q = resB q := by
  have fail : ∀ e, (sidesO (countO 256 (.ok q)).1 (countO 256 (.ok q)).2).2 = .error e → decB q = .error e → progB q = resB q := by
    intro e h1 h2
    unfold progB resB
    rw [h2, h1, kindO_err, restO_err]
    rfl
  by_cases h1 : q.length < 2
  · refine fail 3 ?_ (decB_short h1)
    have : countO 256 (.ok q) = (0, .error 3) := by simp [countO, cntB, h1]
    rw [this]; rfl
  · by_cases h2 : 256 < readNat (q.take 2)
    · refine fail 2 ?_ (decB_many_ h1 h2)
      have : countO 256 (.ok q) = (0, .error 2) := by simp only [countO, cntB, if_neg h1, if_pos h2]
      rw [this]; rfl
    · obtain ⟨m, hm⟩ : ∃ m, m = readNat (q.take 2) := ⟨_, rfl⟩
      have hc : countO 256 (.ok q) = (m, .ok (q.drop 2)) := by simp only [countO, cntB, if_neg h1, if_neg h2, hm]
      by_cases h3 : (q.drop 2).length < 32 * m
      · refine fail 3 ?_ ?_
        · rw [hc]; exact sidesO_short m _ h3
        · unfold decB; rw [if_neg h1, if_neg h2, ← hm, if_pos h3]
      · have hs := sidesO_ok m (q.drop 2) (by omega)
        have hd : decB q = endB (sidesB m (q.drop 2)) ((q.drop 2).drop (32 * m)) := by
          unfold decB; rw [if_neg h1, if_neg h2, ← hm, if_neg h3]
        unfold progB resB
        rw [hd, hc]
        simp only [hs]
        generalize sidesB m (q.drop 2) = LS
        generalize (q.drop 2).drop (32 * m) = l
        cases l with
        | nil => rfl
        | cons k r =>
          by_cases hk : 2 < k.toNat
          · rw [endB_form hk]
            simp only [kindO, if_pos hk]
            rfl
          · simp only [kindO, if_neg hk]
            rcases kind_three (k := k) (by omega) with rfl | rfl | rfl
            · rw [endB_none]
              cases r with
              | nil => rfl
              | cons a r => rfl
            · rw [endB_own]
              have e1 : restO 1 (.ok r) = (⟨#[]⟩, (takeO (countO 4000 (.ok r)).1 (countO 4000 (.ok r)).2).1, (takeO (countO 4000 (.ok r)).1 (countO 4000 (.ok r)).2).2) := rfl
              rw [e1, countO_textB]
              unfold rowB
              cases textB r with
              | error e => rfl
              | ok x =>
                obtain ⟨s, r2⟩ := x
                cases r2 with
                | nil => rfl
                | cons a r2 => rfl
            · rw [endB_other]
              have e1 : restO 2 (.ok r) = (strB (takeO (countO 4000 (.ok r)).1 (countO 4000 (.ok r)).2).1,
                (takeO (countO 4000 (takeO (countO 4000 (.ok r)).1 (countO 4000 (.ok r)).2).2).1 (countO 4000 (takeO (countO 4000 (.ok r)).1 (countO 4000 (.ok r)).2).2).2).1,
                (takeO (countO 4000 (takeO (countO 4000 (.ok r)).1 (countO 4000 (.ok r)).2).2).1 (countO 4000 (takeO (countO 4000 (.ok r)).1 (countO 4000 (.ok r)).2).2).2).2) := rfl
              rw [e1, countO_textB]
              unfold otherB
              cases textB r with
              | error e => rfl
              | ok x =>
                obtain ⟨s, r2⟩ := x
                simp only []
                rw [countO_textB]
                unfold rowB
                cases textB r2 with
                | error e => rfl
                | ok y =>
                  obtain ⟨s2, r3⟩ := y
                  cases r3 with
                  | nil => rfl
                  | cons a r3 => rfl

/-! ### the walks -/
/-- A reader in memory. -/
def RSt (w : World) (b N : Nat) : RO → Prop
  | .error e => (e = 2 ∨ e = 3) ∧ ES w b e
  | .ok l => RS w b N l
theorem RSt.move {w w' : World} {b N : Nat} {o : RO} (h : RSt w b N o) (hb : Below N w w') (hh : w'.heap[b]? = w.heap[b]?) : RSt w' b N o := by
  cases o with
  | error e =>
    obtain ⟨h1, v, h2⟩ := h
    exact ⟨h1, v, hh.trans h2⟩
  | ok l => exact RS.move h hb hh
theorem RSt.below {w w' : World} {b N : Nat} {o : RO} (h : RSt w b N o) (hb : Below w.heap.size w w') : RSt w' b N o := by
  cases o with
  | error e => exact ⟨h.1, h.2.below hb⟩
  | ok l => exact RS.below h hb
theorem RSt.cells {w : World} {b N : Nat} {o : RO} (h : RSt w b N o) : ∃ v : Value, ∃ e : Nat, w.heap[b]? = some (.cells #[v, .int .i64 (e : Int)] 147 (0, 0)) ∧ (∀ e', o = .error e' → e' = e ∧ (e = 2 ∨ e = 3)) ∧ (∀ l, o = .ok l → e = 0 ∧ ∃ A c, v = .slice A l.length c ∧ l.length ≤ 9223372036854775807) := by
  cases o with
  | error e =>
    obtain ⟨h1, v, h2⟩ := h
    exact ⟨v, e, h2, fun e' he => by cases he; exact ⟨rfl, h1⟩, fun l hl => by cases hl⟩
  | ok l =>
    obtain ⟨A, c, h1, h2, _⟩ := h
    exact ⟨.slice A l.length c, 0, h1, (fun e' he => by cases he), (fun l' hl => by cases hl; exact ⟨rfl, A, c, rfl, h2.le⟩)⟩

/-- What take leaves. -/
def TookU (w : World) (b N n : Nat) (o : RO) (x : Ending) (w' : World) : Prop :=
  ∃ A' c' s, Hid (s = (takeO n o).1) ∧ x = .returned (.slice A' s.length c') ∧ Row w' w.heap.size A' c' s ∧ RSt w' b N (takeO n o).2 ∧ Keeps (fun k => k = b) w w'
theorem take_u {w : World} {b N n : Nat} {o : RO} (h : RSt w b N o) (hn : n ≤ 1000000) :
    Calls Tryz.prog 63 #[.pointer (some ⟨b, 0, none⟩), .int .i64 (n : Int)] w (TookU w b N n o) := by
  cases o with
  | error e =>
    refine (take_err h.2 (by rcases h.1 with h | h <;> omega) (by rcases h.1 with h | h <;> omega)).mono ?_
    rintro x w' ⟨rfl, rfl⟩
    exact ⟨none, 0, [], hid rfl, rfl, Row.nil _ _, h, Keeps.refl _ _⟩
  | ok l =>
    by_cases hl : l.length < n
    · refine (take_short (RS.ws h) hl hn).mono ?_
      rintro x w' ⟨rfl, h1, h2⟩
      have e1 : takeO n (.ok l) = ([], .error 3) := by simp [takeO, hl]
      exact ⟨none, 0, [], hid (by rw [e1]), rfl, Row.nil _ _, by rw [e1]; exact ⟨.inr rfl, h1⟩, h2⟩
    · refine (take_ok h (by omega) hn).mono ?_
      rintro x w' ⟨A', c', rfl, h1, h2, h3⟩
      have e1 : takeO n (.ok l) = (l.take n, .ok (l.drop n)) := by simp [takeO, hl]
      exact ⟨A', c', l.take n, hid (by rw [e1]), by rw [List.length_take, Nat.min_eq_left (by omega)], h1, by rw [e1]; exact h2, h3⟩

/-- What count leaves. -/
def CountedU (w : World) (b N m : Nat) (o : RO) (x : Ending) (w' : World) : Prop :=
  ∃ n : Nat, Hid (n = (countO m o).1) ∧ n ≤ m ∧ x = .returned (.int .i64 (n : Int)) ∧ RSt w' b N (countO m o).2 ∧ Keeps (fun k => k = b) w w'
theorem count_u {w : World} {b N m : Nat} {o : RO} (h : RSt w b N o) (hm : m ≤ 100000) :
    Calls Tryz.prog 62 #[.pointer (some ⟨b, 0, none⟩), .int .i64 (m : Int)] w (CountedU w b N m o) := by
  cases o with
  | error e =>
    refine (count_err h.2 (by rcases h.1 with h | h <;> omega) (by rcases h.1 with h | h <;> omega)).mono ?_
    rintro x w' ⟨rfl, rfl⟩
    exact ⟨0, hid rfl, Nat.zero_le _, rfl, h, Keeps.refl _ _⟩
  | ok l =>
    refine (count_any h hm).mono ?_
    rintro x w' ⟨h3, ⟨e, h1, h2, rfl, h4⟩ | ⟨n, h1, h2, rfl, h4⟩⟩
    · have e1 : countO m (.ok l) = (0, .error e) := by simp [countO, h1]
      exact ⟨0, hid (by rw [e1]), Nat.zero_le _, rfl, by rw [e1]; exact ⟨h2, h4⟩, h3⟩
    · have e1 : countO m (.ok l) = (n, .ok (l.drop 2)) := by simp [countO, h1]
      exact ⟨n, hid (by rw [e1]), h2, rfl, by rw [e1]; exact h4, h3⟩

/-- What kind leaves. -/
def KindedU (w : World) (b N : Nat) (o : RO) (x : Ending) (w' : World) : Prop :=
  ∃ k : UInt8, Hid (k = (kindO o).1) ∧ k.toNat ≤ 2 ∧ x = .returned (.int .u8 (k.toNat : Int)) ∧ RSt w' b N (kindO o).2 ∧ Keeps (fun k => k = b) w w'
theorem kind_u {w : World} {b N : Nat} {o : RO} (h : RSt w b N o) :
    Calls Tryz.prog 64 #[.pointer (some ⟨b, 0, none⟩)] w (KindedU w b N o) := by
  cases o with
  | error e =>
    refine (kind_err h.2 (by rcases h.1 with h | h <;> omega) (by rcases h.1 with h | h <;> omega)).mono ?_
    rintro x w' ⟨rfl, rfl⟩
    exact ⟨0, hid rfl, by decide, rfl, h, Keeps.refl _ _⟩
  | ok l =>
    refine (kind_any h).mono ?_
    rintro x w' ⟨h3, ⟨rfl, rfl, h4⟩ | ⟨k, r, rfl, h2, rfl, h4⟩ | ⟨k, r, rfl, h2, rfl, h4⟩⟩
    · exact ⟨0, hid rfl, by decide, rfl, ⟨.inr rfl, h4⟩, h3⟩
    · have e1 : kindO (.ok (k :: r)) = (0, .error 2) := by simp [kindO, h2]
      exact ⟨0, hid (by rw [e1]), by decide, rfl, by rw [e1]; exact ⟨.inl rfl, h4⟩, h3⟩
    · have e1 : kindO (.ok (k :: r)) = (k, .ok r) := by simp only [kindO]; rw [if_neg (by omega)]
      exact ⟨k, hid (by rw [e1]), h2, rfl, by rw [e1]; exact h4, h3⟩
end Go.Proofs.YtdhhaibefifdmaaGreatDoor

/- The walk of the program's Decode. -/
namespace Go.Proofs.YtdhhaibefifdmaaGreatDoor
open Go.RowKit PrintLast

theorem infPP : (Tryz.prog.info? 52).map (·.size) = some 4 := by kernel_rfl
theorem keeps_below {S : Nat} {a w : World} {b : Nat} (h : Keeps (fun k => k = b) a w) (hS : S ≤ b) (ha : S ≤ a.heap.size) : Below S a w :=
  ⟨h.os, h.tape, h.output, h.size, fun k hk => h.block k (by omega) (by omega)⟩
/-- A key and a row that were taken, and what is left. -/
theorem restO_two (o : RO) : restO 2 o = (strB (takeO (countO 4000 o).1 (countO 4000 o).2).1,
    (takeO (countO 4000 (takeO (countO 4000 o).1 (countO 4000 o).2).2).1 (countO 4000 (takeO (countO 4000 o).1 (countO 4000 o).2).2).2).1,
    (takeO (countO 4000 (takeO (countO 4000 o).1 (countO 4000 o).2).2).1 (countO 4000 (takeO (countO 4000 o).1 (countO 4000 o).2).2).2).2) := rfl
theorem restO_one (o : RO) : restO 1 o = (⟨#[]⟩, (takeO (countO 4000 o).1 (countO 4000 o).2).1, (takeO (countO 4000 o).1 (countO 4000 o).2).2) := rfl
theorem restO_else {k : UInt8} (h1 : k ≠ 2) (h2 : k ≠ 1) (o : RO) : restO k o = (⟨#[]⟩, [], o) := by unfold restO; rw [if_neg h1, if_neg h2]

set_option maxRecDepth 100000 in
set_option maxHeartbeats 6400000 in
theorem dec_any {w : World} {A : Option Addr} {c n : Nat} {q : List UInt8} (hn : q.length = n) (hq : BSA w A c q) (hb : n ≤ 1000000) :
    Calls Tryz.prog 32 #[.slice A n c] w (Decoded w q) := by
  obtain ⟨g0, g1, g2, al⟩ := alloc3 w (.cells #[.slice none 0 0, .int .u8 0, .string ⟨#[]⟩, .slice none 0 0] 52) (.cells #[.slice A n c, .int .i64 0] 147) (.cells #[.slice none 0 0, .int .u8 0, .string ⟨#[]⟩, .slice none 0 0] 52)
  have hq0 := hq.below al
  obtain ⟨S, hS⟩ : ∃ S, S = w.heap.size := ⟨_, rfl⟩
  have hpl : 0 < q.length → ∃ g o, A = some ⟨g, o, none⟩ ∧ g < S := fun h0 => by
    obtain ⟨g, o, rfl⟩ := hq.place h0
    have := hq.at_ 0 h0
    exact ⟨g, o, rfl, by rw [hS]; exact World.block_lt_of_cell? w _ this⟩
  rw [← hS] at g0 g1 g2 al
  have HS := hid hS
  clear hq hS
  go_enter Tryz.func32, Tryz.ntmps32
  go_upto_region 3 with fail
  rw [← HS.out]
  generalize hW : ((w.alloc (.cells #[.slice none 0 0, .int .u8 0, .string ⟨#[]⟩, .slice none 0 0] 52)).alloc (.cells #[.slice A n c, .int .i64 0] 147)).alloc (.cells #[.slice none 0 0, .int .u8 0, .string ⟨#[]⟩, .slice none 0 0] 52) = W at *
  obtain ⟨b2, hb2⟩ : ∃ b, b = S + 1 + 1 := ⟨_, rfl⟩
  obtain ⟨b1, hb1⟩ : ∃ b, b = S + 1 := ⟨_, rfl⟩
  rw [← hb2] at g2 ⊢
  rw [← hb1] at g1 ⊢
  have o12 : b1 < b2 := by omega
  have o01 : S < b1 := by omega
  have sW : S ≤ W.heap.size := by have := lt_of_block g0; omega
  have st0 : RSt W b1 S (.ok q) := ⟨A, c, by rw [hn]; exact g1, hq0, hpl, by omega⟩
  have HC := hid (count_u (m := 256) st0 (by omega))
  have PB := hid (progB_res q)
  clear hW hb1 hb2 st0 hq0 hpl hn
  go_wp2_with fail
  refine HC.out.mono ?_
  rintro x w1 ⟨m, hm, hm2, rfl, st1, K1⟩
  obtain ⟨o1, ho1⟩ : ∃ o, o = (countO 256 (.ok q)).2 := ⟨_, rfl⟩
  rw [← ho1] at st1
  have PQ : Hid (progB q = match lastO (restO (kindO (sidesO m o1).2).1 (kindO (sidesO m o1).2).2).2.2 with
    | .error e => (e, ⟨[], 0, ⟨#[]⟩, []⟩)
    | .ok _ => (0, ⟨(sidesO m o1).1, (kindO (sidesO m o1).2).1, (restO (kindO (sidesO m o1).2).1 (kindO (sidesO m o1).2).2).1, (restO (kindO (sidesO m o1).2).1 (kindO (sidesO m o1).2).2).2.1⟩)) := hid (by
      rw [hm.out, ho1]; rfl)
  have al1 : Below S W w1 := keeps_below K1 (by omega) sW
  have G0 := K1.heap g0 (by omega)
  have G2 := K1.heap g2 (by omega)
  have B1 := al.trans al1
  have L0 : Txt w1 S none 0 (sidesO 0 o1).1 := Txt.nil _ _
  have st1' : RSt w1 b1 S (sidesO 0 o1).2 := st1
  clear hm ho1 HC K1 al1 al g0 g1 g2 st1 sW
  go_wp2
  go_loopw [11] (fun i wr => ∃ (k c' : Nat) (R : Option Addr), k ≤ m ∧ i = .int .i64 k ∧ Txt wr S R c' (sidesO k o1).1 ∧ wr.heap[S]? = some (.cells #[.slice none 0 0, .int .u8 0, .string ⟨#[]⟩, .slice none 0 0] 52 (0, 0)) ∧ wr.heap[b2]? = some (.cells #[.slice R k c', .int .u8 0, .string ⟨#[]⟩, .slice none 0 0] 52 (0, 0)) ∧ RSt wr b1 S (sidesO k o1).2 ∧ Below S w wr) (fun i _ => m - (intOf i).toNat)
  case atStart => exact ⟨0, 0, none, Nat.zero_le _, rfl, L0, G0, G2, st1', B1⟩
  case round =>
    clear L0 G0 G2 st1' B1
    obtain ⟨k, c', R, hk, rfl, hL, g0, g2, st, hB⟩ := hrel
    have sB : S ≤ wr.heap.size := by have := lt_of_block g0; omega
    by_cases hlt : k < m
    · have t1 : decide ((k : Int) < (m : Int)) = true := by simp; omega
      have HT : Hid (Calls Tryz.prog 63 #[.pointer (some ⟨b1, 0, none⟩), .int .i64 32] wr.drew (TookU wr.drew b1 S 32 (sidesO k o1).2)) := hid (take_u (n := 32) (show RSt wr.drew b1 S (sidesO k o1).2 from st.move ((Below.refl S wr).drew) rfl) (by omega))
      obtain ⟨LS, hLS⟩ : ∃ LS, LS = (sidesO k o1).1 := ⟨_, rfl⟩
      rw [← hLS] at hL
      have LL : Hid (LS.length = k) := hid (by rw [hLS, sidesO_length])
      have NX : Hid (∀ s, s = (takeO 32 (sidesO k o1).2).1 → LS ++ [strB s] = (sidesO (k + 1) o1).1) := hid (fun s hs => by rw [hs, hLS]; rfl)
      have v0 := cell_at g2 (i := 0) (v := .slice R k c') rfl
      obtain ⟨rv, re, hr, -⟩ := st.cells
      have X2 : wr.drew.heap[b2]? = some (.cells #[.slice R k c', .int .u8 0, .string ⟨#[]⟩, .slice none 0 0] 52 (0, 0)) := g2
      have X1 : wr.drew.heap[b1]? = some (.cells #[rv, .int .i64 (re : Int)] 147 (0, 0)) := hr
      have X0 : wr.drew.heap[S]? = some (.cells #[.slice none 0 0, .int .u8 0, .string ⟨#[]⟩, .slice none 0 0] 52 (0, 0)) := g0
      have XL : Txt wr.drew S R c' LS := hL
      have XB : Below S w wr.drew := hB.drew
      have xs : S ≤ wr.drew.heap.size := sB
      have GG := hid (And.intro X0 (And.intro X1 (And.intro X2 (And.intro XB XL))))
      clear hLS g0 g2 hr hL hB X0 X1 X2 XB XL sB st
      go_wp2
      refine start_ (n := 9) (S := fun w' => w'.cell? ⟨b2, 0, none⟩ = some (.slice R k c')) (ds := [8]) #[false, false, false, false, false, false, false, false, false] (by kernel_rfl) rfl rfl (v0) (fun hHeld => ?_)
      refine pure_ (i := 0) (N := some 13) (v := ?_) (a' := ?_) #[true, false, false, false, false, false, false, false, false] rfl rfl (by kernel_rfl) (fun _ _ _ h => h) (Or.inl ⟨by rfl, ?_⟩) ?_ ?_
      rotate_left
      · intro w'
        go_simp
        with_reducible rfl
      rotate_left
      · simp only [Act.put, List.setIfInBounds_toArray, List.set_cons_zero, List.set_cons_succ, i64_w, i32_w]
        rfl
      refine pure_ (i := 2) (N := some 15) (v := ?_) (a' := ?_) #[true, false, true, false, false, false, false, false, false] rfl rfl (by kernel_rfl) (fun _ _ _ h => h) (Or.inl ⟨by rfl, ?_⟩) ?_ ?_
      rotate_left
      · intro w'
        go_simp
        with_reducible rfl
      rotate_left
      · simp only [Act.put, List.setIfInBounds_toArray, List.set_cons_zero, List.set_cons_succ, i64_w, i32_w]
        rfl
      refine take_ (i := 1) (N := some 14) (v := ?_) (a' := ?_) #[true, true, true, false, false, false, false, false, false] rfl rfl (by kernel_rfl) (fun _ _ _ h => h) (Or.inl ⟨by rfl, ?_⟩) hHeld ?_ ?_
      rotate_left
      · intro w' s0
        go_simp
        with_reducible rfl
      rotate_left
      · simp only [Act.put, List.setIfInBounds_toArray, List.set_cons_zero, List.set_cons_succ, i64_w, i32_w]
        rfl
      refine one_ (i := 3) (N := some 16) #[true, true, true, true, false, false, false, false, false] rfl rfl (by kernel_rfl) (by decide) (fun K hK => ?_)
      refine goes_ Tryz.func63 (by kernel_rfl) rfl #[.pointer (some ⟨b1, 0, none⟩), .int .i64 32] (by rfl) rfl rfl (by simp only [List.map_toArray, List.map_cons, List.map_nil]; rfl) ?_
      with_reducible refine (HT.out).mono ?_
      rintro e' w1 ⟨A1, c1, s, hs, rfl, r1, st1, K1⟩
      refine ⟨_, rfl, ?_⟩
      have y2 := K1.heap GG.out.2.2.1 (by omega)
      have y0 := K1.heap GG.out.1 (by omega)
      obtain ⟨rv1, re1, y1, -⟩ := st1.cells
      have yL := GG.out.2.2.2.2.far K1 GG.out.2.1 (by decide)
      have yB : Below S w w1 := GG.out.2.2.2.1.trans (keeps_below K1 (by omega) xs)
      have ys : S ≤ w1.heap.size := by have := lt_of_block y0; omega
      refine hK.out _ _ ((cell_at y2 rfl)) (fun hHeld => ?_)
      clear hK K
      refine norm_ (a' := ?_) ?_ ?_
      rotate_left
      · show Act.put _ (some 16) _ = _
        simp only [Act.put, List.setIfInBounds_toArray, List.set_cons_zero, List.set_cons_succ, i64_w, i32_w]
        rfl
      refine one_ (i := 4) (N := some 17) #[true, true, true, true, true, false, false, false, false] rfl rfl (by kernel_rfl) (by decide) (fun K hK => ?_)
      have cv := conv_any rfl r1.bsa
      refine value_ (w1 := ?_) (v := ?_) (by rfl) rfl ?_ ?_
      rotate_left 2
      · go_simp
        constructor
        · rfl
        · rfl
      refine hK.out _ _ (hHeld) (fun hHeld => ?_)
      clear hK K
      refine norm_ (a' := ?_) ?_ ?_
      rotate_left
      · show Act.put _ (some 17) _ = _
        simp only [Act.put, List.setIfInBounds_toArray, List.set_cons_zero, List.set_cons_succ, i64_w, i32_w]
        rfl
      refine one_ (i := 5) (N := some 18) #[true, true, true, true, true, true, false, false, false] rfl rfl (by kernel_rfl) (by decide) (fun K hK => ?_)
      refine value_ (w1 := ?_) (v := ?_) (by rfl) rfl ?_ ?_
      rotate_left 2
      · go_simp
        constructor
        · rfl
        · rfl
      have al0 := below_alloc (Below.refl _ w1) (.cells #[.string (strB s)] 9)
      refine hK.out _ _ ((below_cell al0 hHeld)) (fun hHeld => ?_)
      clear hK K
      refine norm_ (a' := ?_) ?_ ?_
      rotate_left
      · show Act.put _ (some 18) _ = _
        simp only [Act.put, List.setIfInBounds_toArray, List.set_cons_zero, List.set_cons_succ, i64_w, i32_w]
        rfl
      refine one_ (i := 6) (N := some 19) #[true, true, true, true, true, true, true, false, false] rfl rfl (by kernel_rfl) (by decide) (fun K hK => ?_)
      refine step_appT rfl (.tmp 14) (.tmp 18) rfl S (Nat.le_trans ys al0.size) R c' k LS rfl LL.out (yL.below al0) _ (strB s) rfl (cell_at (heap_alloc_new _ _) rfl) (by omega) ?_
      intro R2 c2 w2 m1 m2 m3
      have e2 := (yL.below al0).beside LL.out m2 (below_heap al0 y2) (by decide)
      have e1 := (yL.below al0).beside LL.out m2 (below_heap al0 y1) (by decide)
      have e0 := (yL.below al0).beside LL.out m2 (below_heap al0 y0) (by decide)
      have eX := (yL.below al0).grew LL.out m2 ((Below.refl S w1).alloc ys _) (Nat.le_trans ys al0.size)
      have d0 := cell_at e2 (i := 0) (v := .slice R k c') rfl
      have d1 := free_at e2 0
      refine hK.out _ _ (d0) (fun hHeld => ?_)
      clear hK K
      refine norm_ (a' := ?_) ?_ ?_
      rotate_left
      · show Act.put _ (some 19) _ = _
        simp only [Act.put, List.setIfInBounds_toArray, List.set_cons_zero, List.set_cons_succ, i64_w, i32_w]
        rfl
      refine pure_ (i := 7) (N := some 20) (v := ?_) (a' := ?_) #[true, true, true, true, true, true, true, true, false] rfl rfl (by kernel_rfl) (fun _ _ _ h => h) (Or.inl ⟨by rfl, ?_⟩) ?_ ?_
      rotate_left
      · intro w'
        go_simp
        with_reducible rfl
      rotate_left
      · simp only [Act.put, List.setIfInBounds_toArray, List.set_cons_zero, List.set_cons_succ, i64_w, i32_w]
        rfl
      refine last_ (i := 8) (N := none) #[true, true, true, true, true, true, true, true, true] rfl rfl (by kernel_rfl) (by decide) (fun K hK => ?_)
      refine skip_ (w1 := ?_) (by rfl) rfl ?_ ?_
      rotate_left
      · go_simp
        rfl
      refine hK.out _ _ ?_
      clear hK K
      refine done_ (by kernel_rfl) ?_
      have e2' : (w2.setCell ⟨b2, 0, none⟩ (.slice R2 (k + 1) c2)).heap[b2]? = some (.cells #[.slice R2 (k + 1) c2, .int .u8 0, .string ⟨#[]⟩, .slice none 0 0] 52 (0, 0)) := by rw [heap_set e2]; rfl
      have e1' := (keeps_one w2 b2 0 (.slice R2 (k + 1) c2)).heap e1 (by omega)
      have e0' := (keeps_one w2 b2 0 (.slice R2 (k + 1) c2)).heap e0 (by omega)
      have eL' := m1.far (keeps_one w2 b2 0 (.slice R2 (k + 1) c2)) e2 (by decide)
      have eX' := eX.setCell (p := ⟨b2, 0, none⟩) (show S ≤ b2 by omega) (.slice R2 (k + 1) c2)
      have st2 := st1.move eX' (e1'.trans y1.symm)
      have eB' := yB.trans eX'
      rw [NX.out s hs.out] at eL'
      have st2' : RSt (w2.setCell ⟨b2, 0, none⟩ (.slice R2 (k + 1) c2)) b1 S (sidesO (k + 1) o1).2 := st2
      clear m1 m2 m3 e2 e1 e0 e1' eX eX' d0 d1 al0 GG cv NX v0 st1 st2 hs y0 y1 y2 yL yB ys xs K1 HT r1
      generalize w2.setCell ⟨b2, 0, none⟩ (.slice R2 (k + 1) c2) = w3 at *
      go_wp2
      go_roundw
      case rel => exact ⟨k + 1, c2, R2, hlt, by go_num, eL', e0', e2', st2', eB'⟩
      case measure => simp [intOf]; omega
    · obtain rfl : k = m := by omega
      have t1 : decide ((k : Int) < (k : Int)) = false := by simp
      obtain ⟨LS, hLS⟩ : ∃ LS, LS = (sidesO k o1).1 := ⟨_, rfl⟩
      obtain ⟨o2, ho2⟩ : ∃ o2, o2 = (sidesO k o1).2 := ⟨_, rfl⟩
      have LL : Hid (LS.length = k) := hid (by rw [hLS, sidesO_length])
      have P0 := PQ.out
      rw [← hLS, ← ho2] at P0
      rw [← hLS] at hL
      rw [← ho2] at st
      have PQ2 := hid P0
      have HK := hid (kind_u st)
      clear hLS ho2 P0 PQ hlt
      go_wp2_with fail
      refine HK.out.mono ?_
      rintro x w1 ⟨kv, hkv, hk2, rfl, st1, K1⟩
      obtain ⟨o3, ho3⟩ : ∃ o3, o3 = (kindO o2).2 := ⟨_, rfl⟩
      have P0 := PQ2.out
      rw [← hkv.out, ← ho3] at P0
      rw [← ho3] at st1
      have PQ3 := hid P0
      obtain ⟨rv0, re0, hr0, -⟩ := st.cells
      obtain ⟨rv1, re1, hr1, -⟩ := st1.cells
      have y2 := K1.heap g2 (by omega)
      have y0 := K1.heap g0 (by omega)
      have yL := hL.far K1 hr0 (by decide)
      have yB : Below S w w1 := hB.trans (keeps_below K1 (by omega) sB)
      have z2 : (w1.setCell ⟨b2, 1, none⟩ (.int .u8 (kv.toNat : Int))).heap[b2]? = some (.cells #[.slice R k c', .int .u8 (kv.toNat : Int), .string ⟨#[]⟩, .slice none 0 0] 52 (0, 0)) := by rw [heap_set y2]; rfl
      have z0 := (keeps_one w1 b2 1 (.int .u8 (kv.toNat : Int))).heap y0 (by omega)
      have z1 := (keeps_one w1 b2 1 (.int .u8 (kv.toNat : Int))).heap hr1 (by omega)
      have zL := yL.far (keeps_one w1 b2 1 (.int .u8 (kv.toNat : Int))) y2 (by decide)
      have zX := (Below.refl S w1).setCell (p := ⟨b2, 1, none⟩) (show S ≤ b2 by omega) (.int .u8 (kv.toNat : Int))
      have zB := yB.trans zX
      have zst := st1.move zX (z1.trans hr1.symm)
      have v1 := cell_at y2 (i := 1) (v := .int .u8 0) rfl
      have v1' := free_at y2 1
      clear g0 g2 hL hB sB st HK PQ2 P0 hkv ho3 st1 K1 hr0 hr1 y0 y2 yL yB z1 zX
      go_upto_block 2 with fail
      generalize w1.setCell ⟨b2, 1, none⟩ (.int .u8 (kv.toNat : Int)) = w3 at *
      clear v1 v1'
      go_cut [] (fun wx => ∃ (key : ByteArray) (rs : List UInt8) (A' : Option Addr) (cr : Nat) (o4 : RO), Hid (restO kv o3 = (key, rs, o4)) ∧ Txt wx S R c' LS ∧ Row wx S A' cr rs ∧ wx.heap[S]? = some (.cells #[.slice none 0 0, .int .u8 0, .string ⟨#[]⟩, .slice none 0 0] 52 (0, 0)) ∧ wx.heap[b2]? = some (.cells #[.slice R k c', .int .u8 (kv.toNat : Int), .string key, .slice A' rs.length cr] 52 (0, 0)) ∧ RSt wx b1 S o4 ∧ Below S w wx)
      case first =>
        by_cases hk2' : kv = 2
        · have t6 : ((kv.toNat : Int) == 2) = true := by rw [hk2']; rfl
          have HKV := hid hk2'
          obtain ⟨rvz, rez, z1, -⟩ := zst.cells
          have HC : Hid (Calls Tryz.prog 62 #[.pointer (some ⟨b1, 0, none⟩), .int .i64 4000] w3 (CountedU w3 b1 S 4000 o3)) := hid (count_u (m := 4000) zst (by omega))
          clear hk2'
          go_wp2_with fail
          refine HC.out.mono ?_
          rintro x w4 ⟨n4, hn4, hn4', rfl, fst, K4⟩
          have f2 := K4.heap z2 (by omega)
          have f0 := K4.heap z0 (by omega)
          have fL := zL.far K4 z1 (by decide)
          have fX : Below S _ _ := keeps_below K4 (by omega) (by have := lt_of_block z0; omega)
          have fB := zB.trans fX
          obtain ⟨rvf, ref, f1, -⟩ := fst.cells
          have HT := hid (take_u (n := n4) fst (by omega))
          go_wp2_with fail
          refine HT.out.mono ?_
          rintro x w5 ⟨A5, c5, ks, hks, rfl, r5, gst, K5⟩
          have g2 := K5.heap f2 (by omega)
          have g0 := K5.heap f0 (by omega)
          have gL := fL.far K5 f1 (by decide)
          have gX : Below S _ _ := keeps_below K5 (by omega) (by have := lt_of_block f0; omega)
          have gB := fB.trans gX
          obtain ⟨rvg, reg, g1, -⟩ := gst.cells
          have cv := conv_any rfl r5.bsa
          have h2 : (w5.setCell ⟨b2, 2, none⟩ (.string (strB ks))).heap[b2]? = some (.cells #[.slice R k c', .int .u8 (kv.toNat : Int), .string (strB ks), .slice none 0 0] 52 (0, 0)) := by rw [heap_set g2]; rfl
          have h0 := (keeps_one w5 b2 2 (.string (strB ks))).heap g0 (by omega)
          have h1 := (keeps_one w5 b2 2 (.string (strB ks))).heap g1 (by omega)
          have hL := gL.far (keeps_one w5 b2 2 (.string (strB ks))) g2 (by decide)
          have hX := (Below.refl S w5).setCell (p := ⟨b2, 2, none⟩) (show S ≤ b2 by omega) (.string (strB ks))
          have hB := gB.trans hX
          have hst := gst.move hX (h1.trans g1.symm)
          have c2 := cell_at g2 (i := 2) (v := .string ⟨#[]⟩) rfl
          have c2' := free_at g2 2
          clear z0 z1 z2 zL zB zst f0 f1 f2 fL fX fB fst g0 g1 g2 gL gX gB gst h1 hX K4 K5 HC HT r5
          go_upto_region 12 with fail
          generalize w5.setCell ⟨b2, 2, none⟩ (.string (strB ks)) = w6 at *
          clear cv c2 c2'
          obtain ⟨rvh, reh, h1, -⟩ := hst.cells
          have HCh : Hid (Calls Tryz.prog 62 #[.pointer (some ⟨b1, 0, none⟩), .int .i64 4000] w6 (CountedU w6 b1 S 4000 _)) := hid (count_u (m := 4000) hst (by omega))
          go_wp2_with fail
          refine HCh.out.mono ?_
          rintro x w7 ⟨n7, hn7, hn7', rfl, jst, K7⟩
          have j2 := K7.heap h2 (by omega)
          have j0 := K7.heap h0 (by omega)
          have jL := hL.far K7 h1 (by decide)
          have jX : Below S _ _ := keeps_below K7 (by omega) (by have := lt_of_block h0; omega)
          have jB := hB.trans jX
          obtain ⟨rvj, rej, j1, -⟩ := jst.cells
          have HTj := hid (take_u (n := n7) jst (by omega))
          go_wp2_with fail
          refine HTj.out.mono ?_
          rintro x w8 ⟨A8, c8, rs, hrs, rfl, r8, kst, K8⟩
          have k2 := K8.heap j2 (by omega)
          have k0 := K8.heap j0 (by omega)
          have kL := jL.far K8 j1 (by decide)
          have kX : Below S _ _ := keeps_below K8 (by omega) (by have := lt_of_block j0; omega)
          have kB := jB.trans kX
          obtain ⟨rvk, rek, k1, -⟩ := kst.cells
          have r8' : Row w8 S A8 c8 rs := r8.lower (by have := lt_of_block j0; omega)
          have k2' : (w8.setCell ⟨b2, 3, none⟩ (.slice A8 rs.length c8)).heap[b2]? = some (.cells #[.slice R k c', .int .u8 (kv.toNat : Int), .string (strB ks), .slice A8 rs.length c8] 52 (0, 0)) := by rw [heap_set k2]; rfl
          have k0' := (keeps_one w8 b2 3 (.slice A8 rs.length c8)).heap k0 (by omega)
          have k1' := (keeps_one w8 b2 3 (.slice A8 rs.length c8)).heap k1 (by omega)
          have kL' := kL.far (keeps_one w8 b2 3 (.slice A8 rs.length c8)) k2 (by decide)
          have kr' := r8'.far (keeps_one w8 b2 3 (.slice A8 rs.length c8)) k2 (by decide)
          have kX' := (Below.refl S w8).setCell (p := ⟨b2, 3, none⟩) (show S ≤ b2 by omega) (.slice A8 rs.length c8)
          have kB' := kB.trans kX'
          have kst' := kst.move kX' (k1'.trans k1.symm)
          have c3 := cell_at k2 (i := 3) (v := .slice none 0 0) rfl
          have c3' := free_at k2 3
          have RO := hid (show restO kv o3 = ((strB ks), rs, _) from by rw [HKV.out, restO_two, ← hn4.out, ← hks.out, ← hn7.out, ← hrs.out])
          clear j0 j1 j2 jL jX jB jst k0 k1 k2 kL kX kB kst k1' kX' r8 r8' K7 K8 HTj HCh h0 h1 h2 hL hB hst
          go_wp2
          go_meet
          exact ⟨(strB ks), rs, A8, c8, _, RO, kL', kr', k0', k2', kst', kB'⟩
        · have t6 : ((kv.toNat : Int) == 2) = false := by
            rw [beq_eq_false_iff_ne]
            intro e
            have h3 : kv.toNat = 2 := by omega
            exact hk2' (UInt8.toNat_inj.1 (by simpa using h3))
          by_cases hk1' : kv = 1
          · have t7 : ((kv.toNat : Int) == 1) = true := by rw [hk1']; rfl
            have HKV := hid hk1'
            clear hk1' hk2'
            obtain ⟨rvz, rez, z1, -⟩ := zst.cells
            have HCz : Hid (Calls Tryz.prog 62 #[.pointer (some ⟨b1, 0, none⟩), .int .i64 4000] w3 (CountedU w3 b1 S 4000 _)) := hid (count_u (m := 4000) zst (by omega))
            go_wp2_with fail
            refine HCz.out.mono ?_
            rintro x w7 ⟨n7, hn7, hn7', rfl, jst, K7⟩
            have j2 := K7.heap z2 (by omega)
            have j0 := K7.heap z0 (by omega)
            have jL := zL.far K7 z1 (by decide)
            have jX : Below S _ _ := keeps_below K7 (by omega) (by have := lt_of_block z0; omega)
            have jB := zB.trans jX
            obtain ⟨rvj, rej, j1, -⟩ := jst.cells
            have HTj := hid (take_u (n := n7) jst (by omega))
            go_wp2_with fail
            refine HTj.out.mono ?_
            rintro x w8 ⟨A8, c8, rs, hrs, rfl, r8, kst, K8⟩
            have k2 := K8.heap j2 (by omega)
            have k0 := K8.heap j0 (by omega)
            have kL := jL.far K8 j1 (by decide)
            have kX : Below S _ _ := keeps_below K8 (by omega) (by have := lt_of_block j0; omega)
            have kB := jB.trans kX
            obtain ⟨rvk, rek, k1, -⟩ := kst.cells
            have r8' : Row w8 S A8 c8 rs := r8.lower (by have := lt_of_block j0; omega)
            have k2' : (w8.setCell ⟨b2, 3, none⟩ (.slice A8 rs.length c8)).heap[b2]? = some (.cells #[.slice R k c', .int .u8 (kv.toNat : Int), .string ⟨#[]⟩, .slice A8 rs.length c8] 52 (0, 0)) := by rw [heap_set k2]; rfl
            have k0' := (keeps_one w8 b2 3 (.slice A8 rs.length c8)).heap k0 (by omega)
            have k1' := (keeps_one w8 b2 3 (.slice A8 rs.length c8)).heap k1 (by omega)
            have kL' := kL.far (keeps_one w8 b2 3 (.slice A8 rs.length c8)) k2 (by decide)
            have kr' := r8'.far (keeps_one w8 b2 3 (.slice A8 rs.length c8)) k2 (by decide)
            have kX' := (Below.refl S w8).setCell (p := ⟨b2, 3, none⟩) (show S ≤ b2 by omega) (.slice A8 rs.length c8)
            have kB' := kB.trans kX'
            have kst' := kst.move kX' (k1'.trans k1.symm)
            have c3 := cell_at k2 (i := 3) (v := .slice none 0 0) rfl
            have c3' := free_at k2 3
            have RO := hid (show restO kv o3 = (⟨#[]⟩, rs, _) from by rw [HKV.out, restO_one, ← hn7.out, ← hrs.out])
            clear j0 j1 j2 jL jX jB jst k0 k1 k2 kL kX kB kst k1' kX' r8 r8' K7 K8 HTj HCz z0 z1 z2 zL zB zst
            go_wp2
            go_meet
            exact ⟨⟨#[]⟩, rs, A8, c8, _, RO, kL', kr', k0', k2', kst', kB'⟩
          · have t7 : ((kv.toNat : Int) == 1) = false := by
              rw [beq_eq_false_iff_ne]
              intro e
              have h3 : kv.toNat = 1 := by omega
              exact hk1' (UInt8.toNat_inj.1 (by simpa using h3))
            have RO := hid (restO_else hk2' hk1' o3)
            have rN := Row.nil w3 S
            clear hk1' hk2'
            go_wp2
            go_meet
            exact ⟨⟨#[]⟩, [], none, 0, o3, RO, zL, rN, z0, z2, zst, zB⟩
      case rest =>
        obtain ⟨key, rs, A', cr, o4, RO, hL, hr, h0, h2, hst, hB⟩ := hcut
        have P0 := PQ3.out
        rw [RO.out] at P0
        have PQ4 := hid P0
        clear z0 z2 zL zB zst P0 PQ3 RO
        obtain ⟨s0, s1, s2, s3, s0', s1', s2', s3'⟩ := four h0
        have FE : Hid (∀ (W' : World) (e : Nat), Below S w W' → progB q = (e, ⟨[], 0, ⟨#[]⟩, []⟩) → Decoded w q (.returned (.tuple #[.agg #[.slice none 0 0, .int .u8 0, .string ⟨#[]⟩, .slice none 0 0], .int .i64 (e : Int)])) (set4 W' S (.slice none 0 0) (.int .u8 0) (.string ⟨#[]⟩) (.slice none 0 0))) := hid (by
          intro W' e hB' he
          rw [PB.out] at he
          unfold Decoded
          rw [he]
          exact ⟨none, 0, none, 0, rfl, Txt.nil _ _, Row.nil _ _, by rw [← HS.out]; exact set4_below hB' (Nat.le_refl _) _ _ _ _⟩)
        cases o4 with
        | error e =>
          obtain ⟨he, v, hrd⟩ := hst
          have q1 := cell_at hrd (i := 1) (v := .int .i64 (e : Int)) rfl
          have t8 : ((e : Int) == 0) = false := by rw [beq_eq_false_iff_ne]; omega
          have t9 : ((e : Int) != 0) = true := by rw [bne_iff_ne]; omega
          have E := hid (FE.out wc.drew e hB.drew PQ4.out)
          have G := hid (set4_heap (w := wc.drew) (a := .slice none 0 0) (b := .int .u8 0) (c := .string ⟨#[]⟩) (d := .slice none 0 0) h0)
          clear hL hr h0 h2 hB hrd
          go_wp2
          refine start_ (n := 7) (S := fun w' => w'.cell? ⟨b1, 1, none⟩ = some (.int .i64 (e : Int))) (ds := []) #[false, false, false, false, false, false, false] (by kernel_rfl) rfl rfl (q1) (fun hHeld => ?_)
          refine pure_ (i := 0) (N := some 63) (v := ?_) (a' := ?_) #[true, false, false, false, false, false, false] rfl rfl (by kernel_rfl) (fun _ _ _ h => h) (Or.inl ⟨by rfl, ?_⟩) ?_ ?_
          rotate_left
          · intro w'
            go_simp
            with_reducible rfl
          rotate_left
          · simp only [Act.put, List.setIfInBounds_toArray, List.set_cons_zero, List.set_cons_succ, i64_w, i32_w]
            rfl
          refine pure_ (i := 1) (N := some 64) (v := ?_) (a' := ?_) #[true, true, false, false, false, false, false] rfl rfl (by kernel_rfl) (fun _ _ _ h => h) (Or.inl ⟨by rfl, ?_⟩) ?_ ?_
          rotate_left
          · intro w'
            go_simp
            with_reducible rfl
          rotate_left
          · simp only [Act.put, List.setIfInBounds_toArray, List.set_cons_zero, List.set_cons_succ, i64_w, i32_w]
            rfl
          refine pure_ (i := 2) (N := some 65) (v := ?_) (a' := ?_) #[true, true, true, false, false, false, false] rfl rfl (by kernel_rfl) (fun _ _ _ h => h) (Or.inl ⟨by rfl, ?_⟩) ?_ ?_
          rotate_left
          · intro w'
            go_simp
            with_reducible rfl
          rotate_left
          · simp only [Act.put, List.setIfInBounds_toArray, List.set_cons_zero, List.set_cons_succ, i64_w, i32_w]
            rfl
          refine pure_ (i := 3) (N := some 66) (v := ?_) (a' := ?_) #[true, true, true, true, false, false, false] rfl rfl (by kernel_rfl) (fun _ _ _ h => h) (Or.inl ⟨by rfl, ?_⟩) ?_ ?_
          rotate_left
          · intro w'
            go_simp
            with_reducible rfl
          rotate_left
          · simp only [Act.put, List.setIfInBounds_toArray, List.set_cons_zero, List.set_cons_succ, i64_w, i32_w]
            rfl
          refine take_ (i := 4) (N := some 67) (v := ?_) (a' := ?_) #[true, true, true, true, true, false, false] rfl rfl (by kernel_rfl) (fun _ _ _ h => h) (Or.inl ⟨by rfl, ?_⟩) hHeld ?_ ?_
          rotate_left
          · intro w' s0
            go_simp
            with_reducible rfl
          rotate_left
          · simp only [Act.put, List.setIfInBounds_toArray, List.set_cons_zero, List.set_cons_succ, i64_w, i32_w]
            rfl
          refine one_ (i := 5) (N := none) #[true, true, true, true, true, true, false] rfl rfl (by kernel_rfl) (by decide) (fun K hK => ?_)
          refine skip_ (w1 := ?_) (by rfl) rfl ?_ ?_
          rotate_left
          · go_simp
            rfl
          refine hK.out _ _ (((set4_keeps _ S _ _ _ _).cell hHeld (show ¬ b1 = S by omega))) (fun hHeld => ?_)
          clear hK K
          refine pure_ (i := 6) (N := some 3) (v := ?_) (a' := ?_) #[true, true, true, true, true, true, true] rfl rfl (by kernel_rfl) (fun _ _ _ h => h) (Or.inl ⟨by rfl, ?_⟩) ?_ ?_
          rotate_left
          · intro w'
            go_simp
            with_reducible rfl
          rotate_left
          · simp only [Act.put, List.setIfInBounds_toArray, List.set_cons_zero, List.set_cons_succ, i64_w, i32_w]
            rfl
          refine done_ (by kernel_rfl) ?_
          go_wp2
          refine bodyPost_ret (ret_cell_tmp rfl rfl G.out Tryz.underlying52 rfl infPP) rfl ?_
          exact E.out
        | ok l =>
          obtain ⟨Aq, cq, hrd, hqq, _, hN1⟩ := hst
          have q0 := cell_at hrd (i := 0) (v := .slice Aq l.length cq) rfl
          have q1 := cell_at hrd (i := 1) (v := .int .i64 0) rfl
          have ql := hqq.le
          cases l with
          | nil =>
            obtain ⟨v0, v1, v2, v3, v0', v1', v2', v3'⟩ := four h2
            have E : Hid (Decoded w q (.returned (.tuple #[.agg #[.slice R k c', .int .u8 (kv.toNat : Int), .string key, .slice A' rs.length cr], .int .i64 0])) (set4 wc S (.slice R k c') (.int .u8 (kv.toNat : Int)) (.string key) (.slice A' rs.length cr))) := hid (by
              have he := PQ4.out
              rw [PB.out] at he
              unfold Decoded
              rw [he]
              refine ⟨R, c', A', cr, ?_, ?_, ?_, ?_⟩
              · show _ = Ending.returned (.tuple #[.agg (prfV R c' A' cr ⟨LS, kv, key, rs⟩), .int .i64 ((0 : Nat) : Int)])
                unfold prfV
                rw [show (Prf.mk LS kv key rs).side.length = k from LL.out]
                rfl
              · rw [← HS.out]; exact own_far hL (set4_keeps wc S (.slice R k c') (.int .u8 (kv.toNat : Int)) (.string key) (.slice A' rs.length cr)) h0 (by decide)
              · rw [← HS.out]; exact own_far hr (set4_keeps wc S (.slice R k c') (.int .u8 (kv.toNat : Int)) (.string key) (.slice A' rs.length cr)) h0 (by decide)
              · rw [← HS.out]; exact set4_below hB (Nat.le_refl _) _ _ _ _)
            have G := hid (set4_heap (a := .slice R k c') (b := .int .u8 (kv.toNat : Int)) (c := .string key) (d := .slice A' rs.length cr) h0)
            clear hL hr h0 h2 hB hrd hqq
            go_wp2
            refine bodyPost_ret (ret_cell_tmp rfl rfl G.out Tryz.underlying52 rfl infPP) rfl ?_
            exact E.out
          | cons a l =>
            have f1 := free_at hrd 1
            have t8 : decide ((0 : Int) < ((a :: l).length : Int)) = true := by first | (simp; done) | (simp; omega)
            have t8' : decide (0 < (a :: l).length) = true := by simp
            obtain ⟨N, hNN⟩ : ∃ N, N = (a :: l).length := ⟨_, rfl⟩
            rw [← hNN] at q0 t8 t8' ql
            have hX := (Below.refl S wc).setCell (p := ⟨b1, 1, none⟩) (show S ≤ b1 by omega) (.int .i64 2)
            have hB' := hB.trans hX
            have h0' := (keeps_one wc b1 1 (.int .i64 2)).heap h0 (by omega)
            have hrd' := heap_set (i := 1) (v := .int .i64 2) hrd
            have E := hid (FE.out (wc.setCell ⟨b1, 1, none⟩ (.int .i64 2)).drew 2 hB'.drew PQ4.out)
            clear hL hr h0 h2 hB hrd hqq s0 s1 s2 s3 s0' s1' s2' s3' hX hNN
            go_upto_region 15 with fail
            generalize wc.setCell ⟨b1, 1, none⟩ (.int .i64 2) = w9 at *
            clear q0 q1 f1
            have q1 := cell_at hrd' (i := 1) (v := .int .i64 2) rfl
            obtain ⟨s0, s1, s2, s3, s0', s1', s2', s3'⟩ := four h0'
            have G := hid (set4_heap (w := w9.drew) (a := .slice none 0 0) (b := .int .u8 0) (c := .string ⟨#[]⟩) (d := .slice none 0 0) h0')
            clear h0' hrd' hB'
            go_wp2
            refine start_ (n := 7) (S := fun w' => w'.cell? ⟨b1, 1, none⟩ = some (.int .i64 2)) (ds := []) #[false, false, false, false, false, false, false] (by kernel_rfl) rfl rfl (q1) (fun hHeld => ?_)
            refine pure_ (i := 0) (N := some 63) (v := ?_) (a' := ?_) #[true, false, false, false, false, false, false] rfl rfl (by kernel_rfl) (fun _ _ _ h => h) (Or.inl ⟨by rfl, ?_⟩) ?_ ?_
            rotate_left
            · intro w'
              go_simp
              with_reducible rfl
            rotate_left
            · simp only [Act.put, List.setIfInBounds_toArray, List.set_cons_zero, List.set_cons_succ, i64_w, i32_w]
              rfl
            refine pure_ (i := 1) (N := some 64) (v := ?_) (a' := ?_) #[true, true, false, false, false, false, false] rfl rfl (by kernel_rfl) (fun _ _ _ h => h) (Or.inl ⟨by rfl, ?_⟩) ?_ ?_
            rotate_left
            · intro w'
              go_simp
              with_reducible rfl
            rotate_left
            · simp only [Act.put, List.setIfInBounds_toArray, List.set_cons_zero, List.set_cons_succ, i64_w, i32_w]
              rfl
            refine pure_ (i := 2) (N := some 65) (v := ?_) (a' := ?_) #[true, true, true, false, false, false, false] rfl rfl (by kernel_rfl) (fun _ _ _ h => h) (Or.inl ⟨by rfl, ?_⟩) ?_ ?_
            rotate_left
            · intro w'
              go_simp
              with_reducible rfl
            rotate_left
            · simp only [Act.put, List.setIfInBounds_toArray, List.set_cons_zero, List.set_cons_succ, i64_w, i32_w]
              rfl
            refine pure_ (i := 3) (N := some 66) (v := ?_) (a' := ?_) #[true, true, true, true, false, false, false] rfl rfl (by kernel_rfl) (fun _ _ _ h => h) (Or.inl ⟨by rfl, ?_⟩) ?_ ?_
            rotate_left
            · intro w'
              go_simp
              with_reducible rfl
            rotate_left
            · simp only [Act.put, List.setIfInBounds_toArray, List.set_cons_zero, List.set_cons_succ, i64_w, i32_w]
              rfl
            refine take_ (i := 4) (N := some 67) (v := ?_) (a' := ?_) #[true, true, true, true, true, false, false] rfl rfl (by kernel_rfl) (fun _ _ _ h => h) (Or.inl ⟨by rfl, ?_⟩) hHeld ?_ ?_
            rotate_left
            · intro w' s0
              go_simp
              with_reducible rfl
            rotate_left
            · simp only [Act.put, List.setIfInBounds_toArray, List.set_cons_zero, List.set_cons_succ, i64_w, i32_w]
              rfl
            refine one_ (i := 5) (N := none) #[true, true, true, true, true, true, false] rfl rfl (by kernel_rfl) (by decide) (fun K hK => ?_)
            refine skip_ (w1 := ?_) (by rfl) rfl ?_ ?_
            rotate_left
            · go_simp
              rfl
            refine hK.out _ _ (((set4_keeps _ S _ _ _ _).cell hHeld (show ¬ b1 = S by omega))) (fun hHeld => ?_)
            clear hK K
            refine pure_ (i := 6) (N := some 3) (v := ?_) (a' := ?_) #[true, true, true, true, true, true, true] rfl rfl (by kernel_rfl) (fun _ _ _ h => h) (Or.inl ⟨by rfl, ?_⟩) ?_ ?_
            rotate_left
            · intro w'
              go_simp
              with_reducible rfl
            rotate_left
            · simp only [Act.put, List.setIfInBounds_toArray, List.set_cons_zero, List.set_cons_succ, i64_w, i32_w]
              rfl
            refine done_ (by kernel_rfl) ?_
            go_wp2
            refine bodyPost_ret (ret_cell_tmp rfl rfl G.out Tryz.underlying52 rfl infPP) rfl ?_
            exact E.out
end Go.Proofs.YtdhhaibefifdmaaGreatDoor

/- The walks of the program's Encode. -/
namespace Go.Proofs.YtdhhaibefifdmaaGreatDoor
open Go.RowKit PrintLast

section
variable {w : World} {ops : Array Oper} {o : Oper} {a : Act} {K : Act → World → Prop} {Q : Exit → Act → World → Prop} {E : Prop}
/-- 'append' of a text's bytes, in a region of open order. -/
theorem step_appS (hgd : o.guard = none) (s x : Operand)
    (ho : o.op = .call { callee := .builtin .append, args := #[s, x], argTypes := #[22, 9] }) (B : Nat) (hB : B ≤ w.heap.size)
    (R : Option Addr) (c N : Nat) (l : List UInt8) (hs : a.eval s = .slice R N c) (hN : l.length = N) (hR : Row w B R c l) (q : ByteArray) (hx : a.eval x = .string q)
    (h47 : N + q.size ≤ 140737488355328)
    (h : ∀ R' c' w', Row w' B R' c' (l ++ q.data.toList) → Below B w w' → K (a.put o.dst (.slice R' (N + q.size) c')) w') :
    if Region.wanted o (yielded ops a.tmps) = true then Oper.wp Tryz.prog o a w K Q else E := by
  subst hN
  have hw : Region.wanted o (yielded ops a.tmps) = true := by simp [Region.wanted, hgd]
  rw [if_pos hw]
  obtain ⟨i0, hi, hz0, hz1, hz2⟩ := info_parts infU8'
  obtain ⟨v', w', hrun, k1, k2, _⟩ := Lib.run_append_own_string (P := Tryz.prog) w B 22 9 o.type 5 i0 Tryz.underlying22 Tryz.underlying9 hi hz0 hz1 hz2 _ l.length (bytesV l) hR q (by unfold maxLen; omega) h47 hB
  have e1 : bytesV l ++ Lib.strCells q = bytesV (l ++ q.data.toList) := by rw [bytesV_append]; rfl
  rw [e1] at k1
  have hform : ∃ A' c', v' = .slice A' (l.length + q.size) c' := by
    rcases k1.2 with ⟨e, h0⟩ | ⟨g', cap', cur', e', _⟩
    · rw [e, h0]; exact ⟨_, _, rfl⟩
    · exact ⟨_, _, e'⟩
  obtain ⟨A', c', rfl⟩ := hform
  have fin := h A' c' w' (by unfold Row; rw [List.length_append, bsz]; exact k1) ((Below.refl B w).grown k2 hB (fun k hk => (hR.lt k hk).1))
  unfold Oper.wp
  simp [execOp, ho, resolve, invoke, builtin, hs, hx, hrun, Result.andThen]
  exact fin
/-- 'append' of bytes that are read, or none, in a region of open order. -/
theorem step_appO (hgd : o.guard = none) (s x : Operand)
    (ho : o.op = .call { callee := .builtin .append, args := #[s, x], argTypes := #[22, 22] }) (B : Nat) (hB : B ≤ w.heap.size)
    (R : Option Addr) (c N : Nat) (l : List UInt8) (hs : a.eval s = .slice R N c) (hN : l.length = N) (hR : Row w B R c l) (A : Option Addr) (c2 m : Nat) (q : List UInt8) (hx : a.eval x = .slice A m c2) (hm : q.length = m) (hb : BSA w A c2 q)
    (h47 : N + m ≤ 140737488355328)
    (h : ∀ R' c' w', Row w' B R' c' (l ++ q) → Below B w w' → K (a.put o.dst (.slice R' (N + m) c')) w') :
    if Region.wanted o (yielded ops a.tmps) = true then Oper.wp Tryz.prog o a w K Q else E := by
  subst hN hm
  refine step_app8 22 5 Tryz.underlying22 infU8' hgd s x ho _ l hs (hR.lower (Nat.zero_le _)) A c2 q hx hb h47 ?_
  intro A' c' w' k1 k2 k3 _
  have hfr : ∀ k, (Value.slice R l.length c).ownBlock = some k → B ≤ k := fun k hk => (hR.lt k hk).1
  refine h A' c' w' (Row.raise (by simpa using k1) (by simp) (fun k hk => ?_)) ((Below.refl B w).grown k2 hB hfr)
  rcases k3 with e | e
  · rw [e] at hk; exact hfr k hk
  · rw [e] at hk; simp at hk; omega
end

/-- What count leaves that puts a number's two bytes behind bytes. -/
def Onto (w : World) (B : Nat) (L : List UInt8) (x : Ending) (w' : World) : Prop := ∃ R' c' N, Hid (N = L.length) ∧ x = .returned (.slice R' N c') ∧ Row w' B R' c' L ∧ Below B w w'
set_option maxHeartbeats 1600000 in
theorem put_count {w : World} {B c N n : Nat} {R : Option Addr} {l : List UInt8} (hN : l.length = N) (hR : Row w B R c l) (hB : B ≤ w.heap.size) (hn : n ≤ 1000000000) (hl : N ≤ 1000000000000) :
    Calls Tryz.prog 214 #[.slice R N c, .int .i64 (n : Int)] w (Onto w B (l ++ numBytes n 2)) := by
  have nb : numBytes n 2 = [UInt8.ofNat (n / 256), UInt8.ofNat (n / 1)] := rfl
  have f1 : ((n : Int) / 256) % 256 = ((UInt8.ofNat (n / 256)).toNat : Int) := byte_div n 8
  have f0 : (n : Int) % 256 = ((UInt8.ofNat (n / 1)).toNat : Int) := by simp
  obtain ⟨x1, h1⟩ : ∃ x, x = UInt8.ofNat (n / 256) := ⟨_, rfl⟩
  obtain ⟨x0, h0⟩ : ∃ x, x = UInt8.ofNat (n / 1) := ⟨_, rfl⟩
  rw [← h1, ← h0] at nb
  rw [← h1] at f1
  rw [← h0] at f0
  rw [nb]
  have al := (Below.refl B w).alloc hB (.cells (bytesV [x1, x0]).toArray 5)
  have q0 := lits_bsa w [x1, x0] (by simp)
  have r0 := hR.below (below_alloc (Below.refl _ w) (.cells (bytesV [x1, x0]).toArray 5))
  have HN := hid hN
  have sz : B ≤ (w.alloc (.cells (bytesV [x1, x0]).toArray 5)).heap.size := Nat.le_trans hB al.size
  clear h1 h0 nb hN hR
  go_enter Tryz.func214, Tryz.ntmps214
  go_wp2_with (refine wpList_appO rfl (.tmp 5) (.tmp 11) rfl B sz R c l (by rw [HN.out]; rfl) r0 _ 2 [x1, x0] rfl q0 (by rw [HN.out]; simp; omega) (N + 2) (by rw [HN.out]; rfl) ?_)
  intro R' c' w' k1 k2
  have al2 := al.trans k2
  go_wp2
  go_ret
  exact ⟨R', c', N + 2, hid (by rw [List.length_append, HN.out]; rfl), rfl, k1, al2⟩
end Go.Proofs.YtdhhaibefifdmaaGreatDoor

/- The walk of the program's Encode. -/
namespace Go.Proofs.YtdhhaibefifdmaaGreatDoor
open Go.RowKit PrintLast

theorem sidesS_take (l : List ByteArray) (k : Nat) (h : k < l.length) : sidesS (l.take (k + 1)) = sidesS (l.take k) ++ l[k].data.toList := by
  unfold sidesS
  rw [List.take_succ_eq_append_getElem h, List.flatMap_append]
  simp
theorem sidesS_le (l : List ByteArray) (k : Nat) : (sidesS (l.take k)).length ≤ (sidesS l).length := by
  have : sidesS l = sidesS (l.take k) ++ sidesS (l.drop k) := by
    unfold sidesS
    rw [← List.flatMap_append, List.take_append_drop]
  rw [this, List.length_append]
  omega
/-- A proof that is not too large to be laid. -/
def Holds (p : Prf) : Prop := p.side.length ≤ 1000000 ∧ (sidesS p.side).length ≤ 100000000 ∧ p.key.size ≤ 1000000 ∧ p.row.length ≤ 1000000
theorem sidesS_one (l : List ByteArray) (k : Nat) (h : k < l.length) : (sidesS (l.take k)).length + l[k].size ≤ (sidesS l).length := by
  have h1 := sidesS_le l (k + 1)
  rw [sidesS_take l k h, List.length_append] at h1
  have : l[k].data.toList.length = l[k].size := by simp
  omega

set_option maxRecDepth 100000 in
set_option maxHeartbeats 6400000 in
theorem enc_any {w : World} {A B : Option Addr} {c d k m : Nat} {p : Prf} (hk : p.side.length = k) (hm : p.row.length = m) (hA : TxtAt w A p.side) (hB : BSA w B d p.row) (hp : Holds p) :
    Calls Tryz.prog 192 #[.agg #[.slice A k c, .int .u8 (p.kind.toNat : Int), .string p.key, .slice B m d]] w (Gave w (encB p)) := by
  obtain ⟨hp1, hp2, hp3, hp4⟩ := hp
  rw [hk] at hp1
  rw [hm] at hp4
  obtain ⟨S, hS⟩ : ∃ S, S = w.heap.size := ⟨_, rfl⟩
  have al := below_alloc (Below.refl _ w) (.cells #[.slice A k c, .int .u8 (p.kind.toNat : Int), .string p.key, .slice B m d] 52)
  have gb := heap_alloc_new w (.cells #[.slice A k c, .int .u8 (p.kind.toNat : Int), .string p.key, .slice B m d] 52)
  have sz : S + 1 ≤ (w.alloc (.cells #[.slice A k c, .int .u8 (p.kind.toNat : Int), .string p.key, .slice B m d] 52)).heap.size := by rw [hS]; simp
  rw [← hS] at gb al
  have HS := hid hS
  have HA := hid hA
  have HB := hid hB
  have HK := hid (And.intro hk hm)
  have HP2 := hid hp2
  obtain ⟨kv, hkv⟩ : ∃ kv, kv = p.kind := ⟨_, rfl⟩
  obtain ⟨key, hkey⟩ : ∃ key, key = p.key := ⟨_, rfl⟩
  rw [← hkv, ← hkey] at gb al sz ⊢
  rw [← hkey] at hp3
  have HE := hid (And.intro hkv hkey)
  clear hS hA hB hk hm hp2 hkv hkey
  go_enter Tryz.func192, Tryz.ntmps192
  go_upto_region 1 with fail
  rw [← HS.out]
  generalize w.alloc (.cells #[.slice A k c, .int .u8 (kv.toNat : Int), .string key, .slice B m d] 52) = W at *
  obtain ⟨v0, v1, v2, v3, -, -, -, -⟩ := four gb
  have H := hid (put_count (n := k) (N := 0) (l := []) rfl (Row.nil W (S + 1)) sz (by omega) (by omega))
  go_wp2_with fail
  refine H.out.mono ?_
  rintro x w1 ⟨R1, c1, N1, hN1, rfl, r1, b1⟩
  have gb1 := (b1.block S (by omega)).trans gb
  obtain rfl : N1 = 2 := by rw [hN1.out, List.nil_append, numBytes_length]
  obtain ⟨nb, hnb⟩ : ∃ nb, nb = numBytes k 2 := ⟨_, rfl⟩
  rw [List.nil_append, ← hnb] at r1
  have LB : Hid (nb.length = 2) := hid (by rw [hnb, numBytes_length])
  have NB := hid hnb
  have r1' : Row w1 (S + 1) R1 c1 (nb ++ sidesS (p.side.take 0)) := by simpa [sidesS] using r1
  have P0 : Hid (2 = (nb ++ sidesS (p.side.take 0)).length) := hid (by simp [sidesS, LB.out])
  have hAw := al.trans (b1.mono (Nat.le_succ S))
  clear hN1 hnb r1 v0 v1 v2 v3 gb al sz H b1
  obtain ⟨v0, v1, v2, v3, -, -, -, -⟩ := four gb1
  go_wp2
  go_loopw [3, 13] (fun v i wr => ∃ (j N c' : Nat) (R : Option Addr), j ≤ k ∧ i = .int .i64 j ∧ v = .slice R N c' ∧ Hid (N = (nb ++ sidesS (p.side.take j)).length) ∧ Row wr (S + 1) R c' (nb ++ sidesS (p.side.take j)) ∧ wr.heap[S]? = some (.cells #[.slice A k c, .int .u8 (kv.toNat : Int), .string key, .slice B m d] 52 (0, 0)) ∧ Below S w wr) (fun _ i _ => k - (intOf i).toNat)
  case atStart => exact ⟨0, 2, c1, R1, Nat.zero_le _, rfl, rfl, P0, r1', gb1, hAw⟩
  case round =>
    clear P0 r1' gb1 hAw v0 v1 v2 v3
    obtain ⟨j, N, c', R, hj, rfl, rfl, hN, hR, gb, hB⟩ := hrel
    have sz : S + 1 ≤ wr.heap.size := by have := lt_of_block gb; omega
    by_cases hlt : j < k
    · have t1 : decide ((j : Int) < (k : Int)) = true := by simp; omega
      have hjs : j < p.side.length := by rw [HK.out.1]; exact hlt
      obtain ⟨g, o, rfl, cs⟩ := (HA.out.below (show Below w.heap.size w wr by rw [← HS.out]; exact hB)).at_ j hjs
      have NX := hid (sidesS_take p.side j hjs)
      have LE := hid (sidesS_one p.side j hjs)
      obtain ⟨s, hs⟩ : ∃ s, s = p.side[j] := ⟨_, rfl⟩
      rw [← hs] at cs NX LE
      clear hs
      go_wp2_with (refine wpList_appS rfl (.tmp 17) (.tmp 18) rfl (S + 1) sz R c' (nb ++ sidesS (p.side.take j)) (by rw [← hN.out]; rfl) hR s rfl (by have := LE.out; have := HP2.out; have := LB.out; rw [List.length_append]; omega) (N + s.size) (by rw [← hN.out]) ?_)
      intro R2 c2 w2 m1 m2
      have hN' : Hid (N + s.size = (nb ++ sidesS (p.side.take (j + 1))).length) := hid (by rw [NX.out, ← List.append_assoc, List.length_append, ← hN.out, bsz])
      first | rw [List.append_assoc, ← NX.out] at m1 | rw [← NX.out] at m1
      have gb2 := (m2.block S (by omega)).trans gb
      have hB2 := hB.trans (m2.mono (Nat.le_succ S))
      clear hR gb hB cs NX LE hN m2 sz
      go_wp2
      go_roundw
      case rel => exact ⟨j + 1, N + s.size, c2, R2, hlt, by go_num, by go_num, hN', m1, gb2, hB2⟩
      case measure => simp [intOf]; omega
    · obtain rfl : j = k := by omega
      have t1 : decide ((j : Int) < (j : Int)) = false := by simp
      obtain ⟨X, hX⟩ : ∃ X, X = nb ++ sidesS p.side := ⟨_, rfl⟩
      have e1 : p.side.take j = p.side := List.take_of_length_le (Nat.le_of_eq HK.out.1)
      rw [e1, ← hX] at hR hN
      have XB : Hid (X = numBytes p.side.length 2 ++ sidesS p.side) := hid (by rw [hX, NB.out, HK.out.1])
      have XL : N ≤ 100000002 := by rw [hN.out, hX, List.length_append, LB.out]; have := HP2.out; omega
      obtain ⟨v0, v1, v2, v3, -, -, -, -⟩ := four gb
      have al := (Below.refl (S + 1) wr).alloc sz (.cells #[.int .u8 (kv.toNat : Int)] 5)
      have q0 := lit_bsa wr kv
      have hR' := hR.below (below_alloc (Below.refl _ wr) (.cells #[.int .u8 (kv.toNat : Int)] 5))
      have HG := hid gb
      have sz' := Nat.le_trans sz al.size
      clear e1 hX hR hlt LB NB
      go_wp2_with (refine wpList_appO rfl (.tmp 21) (.tmp 24) rfl (S + 1) sz' R c' X (by rw [← hN.out]; rfl) hR' _ 1 [kv] rfl q0 (by rw [← hN.out]; simp; omega) (N + 1) (by rw [← hN.out]; rfl) ?_)
      intro R2 c2 w2 r2 m2
      have gb2 := ((al.trans m2).block S (by omega)).trans HG.out
      have hB2 := hB.trans ((al.trans m2).mono (Nat.le_succ S))
      have YL : Hid ((X ++ [kv]).length = N + 1) := hid (by rw [List.length_append, ← hN.out]; rfl)
      obtain ⟨Y, hY⟩ : ∃ Y, Y = X ++ [kv] := ⟨_, rfl⟩
      rw [← hY] at r2 YL
      have YB : Hid (Y = numBytes p.side.length 2 ++ sidesS p.side ++ [kv]) := hid (by rw [hY, XB.out])
      have sz2 : S + 1 ≤ w2.heap.size := by have := lt_of_block gb2; omega
      clear hR' q0 al m2 HG gb hB sz sz' hY v0 v1 v2 v3 hN XB
      obtain ⟨v0, v1, v2, v3, -, -, -, -⟩ := four gb2
      have EK := HE.out
      by_cases hk2 : kv = 2
      · have t6 : ((kv.toNat : Int) == 2) = true := by rw [hk2]; rfl
        have PK : Hid (p.kind = 2) := hid (by rw [← EK.1]; exact hk2)
        clear hk2 EK
        have HC := hid (fun (w' : World) (h : Row w' (S + 1) R2 c2 Y) (hs : S + 1 ≤ w'.heap.size) => put_count (n := key.size) YL.out h hs (by omega) (by omega))
        have sBd : S + 1 ≤ w2.drew.heap.size := sz2
        have r2d : Row w2.drew (S + 1) R2 c2 Y := r2
        go_wp2
        refine start_ (n := 9) (S := fun w' => w'.cell? ⟨S, 2, none⟩ = some (.string key)) (ds := []) #[false, false, false, false, false, false, false, false, false] (by kernel_rfl) rfl rfl (v2) (fun hHeld => ?_)
        refine pure_ (i := 0) (N := some 32) (v := ?_) (a' := ?_) #[true, false, false, false, false, false, false, false, false] rfl rfl (by kernel_rfl) (fun _ _ _ h => h) (Or.inl ⟨by rfl, ?_⟩) ?_ ?_
        rotate_left
        · intro w'
          go_simp
          with_reducible rfl
        rotate_left
        · simp only [Act.put, List.setIfInBounds_toArray, List.set_cons_zero, List.set_cons_succ, i64_w, i32_w]
          rfl
        refine pure_ (i := 1) (N := some 33) (v := ?_) (a' := ?_) #[true, true, false, false, false, false, false, false, false] rfl rfl (by kernel_rfl) (fun _ _ _ h => h) (Or.inl ⟨by rfl, ?_⟩) ?_ ?_
        rotate_left
        · intro w'
          go_simp
          with_reducible rfl
        rotate_left
        · simp only [Act.put, List.setIfInBounds_toArray, List.set_cons_zero, List.set_cons_succ, i64_w, i32_w]
          rfl
        refine pure_ (i := 5) (N := some 37) (v := ?_) (a' := ?_) #[true, true, false, false, false, true, false, false, false] rfl rfl (by kernel_rfl) (fun _ _ _ h => h) (Or.inl ⟨by rfl, ?_⟩) ?_ ?_
        rotate_left
        · intro w'
          go_simp
          with_reducible rfl
        rotate_left
        · simp only [Act.put, List.setIfInBounds_toArray, List.set_cons_zero, List.set_cons_succ, i64_w, i32_w]
          rfl
        refine take_ (i := 2) (N := some 34) (v := ?_) (a' := ?_) #[true, true, true, false, false, true, false, false, false] rfl rfl (by kernel_rfl) (fun _ _ _ h => h) (Or.inl ⟨by rfl, ?_⟩) hHeld ?_ ?_
        rotate_left
        · intro w' s0
          go_simp
          with_reducible rfl
        rotate_left
        · simp only [Act.put, List.setIfInBounds_toArray, List.set_cons_zero, List.set_cons_succ, i64_w, i32_w]
          rfl
        refine pure_ (i := 3) (N := some 35) (v := ?_) (a' := ?_) #[true, true, true, true, false, true, false, false, false] rfl rfl (by kernel_rfl) (fun _ _ _ h => h) (Or.inl ⟨by rfl, ?_⟩) ?_ ?_
        rotate_left
        · intro w'
          go_simp
          with_reducible rfl
        rotate_left
        · simp only [Act.put, List.setIfInBounds_toArray, List.set_cons_zero, List.set_cons_succ, i64_w, i32_w]
          rfl
        refine take_ (i := 6) (N := some 38) (v := ?_) (a' := ?_) #[true, true, true, true, false, true, true, false, false] rfl rfl (by kernel_rfl) (fun _ _ _ h => h) (Or.inl ⟨by rfl, ?_⟩) hHeld ?_ ?_
        rotate_left
        · intro w' s0
          go_simp
          with_reducible rfl
        rotate_left
        · simp only [Act.put, List.setIfInBounds_toArray, List.set_cons_zero, List.set_cons_succ, i64_w, i32_w]
          rfl
        refine one_ (i := 4) (N := some 36) #[true, true, true, true, true, true, true, false, false] rfl rfl (by kernel_rfl) (by decide) (fun K hK => ?_)
        refine goes_ Tryz.func214 (by kernel_rfl) rfl #[.slice R2 (N + 1) c2, .int .i64 (key.size : Int)] (by rfl) rfl rfl (by simp only [List.map_toArray, List.map_cons, List.map_nil]; rfl) ?_
        with_reducible refine ((HC.out _ r2d sBd)).mono ?_
        rintro e' w5 ⟨R5, c5, N5, hN5, rfl, r5, b5⟩
        refine ⟨_, rfl, ?_⟩
        have g5 := (b5.block S (by omega)).trans (show w2.drew.heap[S]? = _ from gb2)
        have B5 : Below S w w5 := hB2.drew.trans (b5.mono (Nat.le_succ S))
        have s5 : S + 1 ≤ w5.heap.size := by have := lt_of_block g5; omega
        refine hK.out _ _ ((cell_at g5 rfl)) (fun hHeld => ?_)
        clear hK K
        refine norm_ (a' := ?_) ?_ ?_
        rotate_left
        · show Act.put _ (some 36) _ = _
          simp only [Act.put, List.setIfInBounds_toArray, List.set_cons_zero, List.set_cons_succ, i64_w, i32_w]
          rfl
        refine one_ (i := 7) (N := some 39) #[true, true, true, true, true, true, true, true, false] rfl rfl (by kernel_rfl) (by decide) (fun K hK => ?_)
        refine step_appS rfl (.tmp 36) (.tmp 38) rfl (S + 1) s5 R5 c5 N5 (Y ++ numBytes key.size 2) rfl hN5.out.symm r5 key rfl (by rw [hN5.out, List.length_append, numBytes_length]; have := YL.out; omega) ?_
        intro R6 c6 w6 r6 b6
        have g6 := (b6.block S (by omega)).trans g5
        have B6 := B5.trans (b6.mono (Nat.le_succ S))
        refine hK.out _ _ ((cell_at g6 rfl)) (fun hHeld => ?_)
        clear hK K
        refine norm_ (a' := ?_) ?_ ?_
        rotate_left
        · show Act.put _ (some 39) _ = _
          simp only [Act.put, List.setIfInBounds_toArray, List.set_cons_zero, List.set_cons_succ, i64_w, i32_w]
          rfl
        refine pure_ (i := 8) (N := some 3) (v := ?_) (a' := ?_) #[true, true, true, true, true, true, true, true, true] rfl rfl (by kernel_rfl) (fun _ _ _ h => h) (Or.inl ⟨by rfl, ?_⟩) ?_ ?_
        rotate_left
        · intro w'
          go_simp
          with_reducible rfl
        rotate_left
        · simp only [Act.put, List.setIfInBounds_toArray, List.set_cons_zero, List.set_cons_succ, i64_w, i32_w]
          rfl
        refine done_ (by kernel_rfl) ?_
        obtain ⟨N2, hN2⟩ : ∃ N2, N2 = N5 + key.size := ⟨_, rfl⟩
        obtain ⟨Y2, hY2⟩ : ∃ Y2, Y2 = Y ++ numBytes key.size 2 ++ key.data.toList := ⟨_, rfl⟩
        rw [← hN2]
        rw [← hY2] at r6
        have YL2 : Hid (Y2.length = N2) := hid (by rw [hY2, hN2, hN5.out, List.length_append, bsz])
        have NL2 : N2 ≤ 200000000 := by rw [hN2, hN5.out, List.length_append, numBytes_length]; have := YL.out; omega
        have YB2 : Hid (Y2 = Y ++ textS key.data.toList) := hid (by rw [hY2]; unfold textS; rw [bsz, List.append_assoc])
        clear gb2 hB2 r2 v0 v1 v2 v3 b5 b6 r5 g5 B5 HC hN2 hY2 sBd r2d sz2 hN5
        have sz2 : S + 1 ≤ w6.heap.size := by have := lt_of_block g6; omega
        obtain ⟨v0, v1, v2, v3, -, -, -, -⟩ := four g6
        have gb2 := g6
        have hB2 := B6
        have r2 := r6
        clear g6 B6 r6
        have HC := hid (fun (w' : World) (h : Row w' (S + 1) R6 c6 Y2) (hs : S + 1 ≤ w'.heap.size) => put_count (n := m) YL2.out h hs (by omega) (by omega))
        have sBd : S + 1 ≤ w6.drew.heap.size := sz2
        have r2d : Row w6.drew (S + 1) R6 c6 Y2 := r2
        go_wp2
        refine start_ (n := 9) (S := fun w' => w'.cell? ⟨S, 3, none⟩ = some (.slice B m d)) (ds := []) #[false, false, false, false, false, false, false, false, false] (by kernel_rfl) rfl rfl (v3) (fun hHeld => ?_)
        refine pure_ (i := 0) (N := some 40) (v := ?_) (a' := ?_) #[true, false, false, false, false, false, false, false, false] rfl rfl (by kernel_rfl) (fun _ _ _ h => h) (Or.inl ⟨by rfl, ?_⟩) ?_ ?_
        rotate_left
        · intro w'
          go_simp
          with_reducible rfl
        rotate_left
        · simp only [Act.put, List.setIfInBounds_toArray, List.set_cons_zero, List.set_cons_succ, i64_w, i32_w]
          rfl
        refine pure_ (i := 1) (N := some 41) (v := ?_) (a' := ?_) #[true, true, false, false, false, false, false, false, false] rfl rfl (by kernel_rfl) (fun _ _ _ h => h) (Or.inl ⟨by rfl, ?_⟩) ?_ ?_
        rotate_left
        · intro w'
          go_simp
          with_reducible rfl
        rotate_left
        · simp only [Act.put, List.setIfInBounds_toArray, List.set_cons_zero, List.set_cons_succ, i64_w, i32_w]
          rfl
        refine pure_ (i := 5) (N := some 45) (v := ?_) (a' := ?_) #[true, true, false, false, false, true, false, false, false] rfl rfl (by kernel_rfl) (fun _ _ _ h => h) (Or.inl ⟨by rfl, ?_⟩) ?_ ?_
        rotate_left
        · intro w'
          go_simp
          with_reducible rfl
        rotate_left
        · simp only [Act.put, List.setIfInBounds_toArray, List.set_cons_zero, List.set_cons_succ, i64_w, i32_w]
          rfl
        refine take_ (i := 2) (N := some 42) (v := ?_) (a' := ?_) #[true, true, true, false, false, true, false, false, false] rfl rfl (by kernel_rfl) (fun _ _ _ h => h) (Or.inl ⟨by rfl, ?_⟩) hHeld ?_ ?_
        rotate_left
        · intro w' s0
          go_simp
          with_reducible rfl
        rotate_left
        · simp only [Act.put, List.setIfInBounds_toArray, List.set_cons_zero, List.set_cons_succ, i64_w, i32_w]
          rfl
        refine pure_ (i := 3) (N := some 43) (v := ?_) (a' := ?_) #[true, true, true, true, false, true, false, false, false] rfl rfl (by kernel_rfl) (fun _ _ _ h => h) (Or.inl ⟨by rfl, ?_⟩) ?_ ?_
        rotate_left
        · intro w'
          go_simp
          with_reducible rfl
        rotate_left
        · simp only [Act.put, List.setIfInBounds_toArray, List.set_cons_zero, List.set_cons_succ, i64_w, i32_w]
          rfl
        refine take_ (i := 6) (N := some 46) (v := ?_) (a' := ?_) #[true, true, true, true, false, true, true, false, false] rfl rfl (by kernel_rfl) (fun _ _ _ h => h) (Or.inl ⟨by rfl, ?_⟩) hHeld ?_ ?_
        rotate_left
        · intro w' s0
          go_simp
          with_reducible rfl
        rotate_left
        · simp only [Act.put, List.setIfInBounds_toArray, List.set_cons_zero, List.set_cons_succ, i64_w, i32_w]
          rfl
        refine one_ (i := 4) (N := some 44) #[true, true, true, true, true, true, true, false, false] rfl rfl (by kernel_rfl) (by decide) (fun K hK => ?_)
        refine goes_ Tryz.func214 (by kernel_rfl) rfl #[.slice R6 N2 c6, .int .i64 (m : Int)] (by rfl) rfl rfl (by simp only [List.map_toArray, List.map_cons, List.map_nil]; rfl) ?_
        with_reducible refine ((HC.out _ r2d sBd)).mono ?_
        rintro e' w7 ⟨R7, c7, N7, hN7, rfl, r7, b7⟩
        refine ⟨_, rfl, ?_⟩
        have g7 := (b7.block S (by omega)).trans (show w6.drew.heap[S]? = _ from gb2)
        have B7 : Below S w w7 := hB2.drew.trans (b7.mono (Nat.le_succ S))
        have hb7 := HB.out.below (show Below w.heap.size w w7 by rw [← HS.out]; exact B7)
        have s7 : S + 1 ≤ w7.heap.size := by have := lt_of_block g7; omega
        refine hK.out _ _ ((cell_at g7 rfl)) (fun hHeld => ?_)
        clear hK K
        refine norm_ (a' := ?_) ?_ ?_
        rotate_left
        · show Act.put _ (some 44) _ = _
          simp only [Act.put, List.setIfInBounds_toArray, List.set_cons_zero, List.set_cons_succ, i64_w, i32_w]
          rfl
        refine one_ (i := 7) (N := some 47) #[true, true, true, true, true, true, true, true, false] rfl rfl (by kernel_rfl) (by decide) (fun K hK => ?_)
        refine step_appO rfl (.tmp 44) (.tmp 46) rfl (S + 1) s7 R7 c7 N7 (Y2 ++ numBytes m 2) rfl hN7.out.symm r7 B d m p.row rfl HK.out.2 hb7 (by rw [hN7.out, List.length_append, numBytes_length]; have := YL2.out; omega) ?_
        intro R8 c8 w8 r8 b8
        have g8 := (b8.block S (by omega)).trans g7
        have B8 := B7.trans (b8.mono (Nat.le_succ S))
        refine hK.out _ _ ((cell_at g8 rfl)) (fun hHeld => ?_)
        clear hK K
        refine norm_ (a' := ?_) ?_ ?_
        rotate_left
        · show Act.put _ (some 47) _ = _
          simp only [Act.put, List.setIfInBounds_toArray, List.set_cons_zero, List.set_cons_succ, i64_w, i32_w]
          rfl
        refine pure_ (i := 8) (N := some 3) (v := ?_) (a' := ?_) #[true, true, true, true, true, true, true, true, true] rfl rfl (by kernel_rfl) (fun _ _ _ h => h) (Or.inl ⟨by rfl, ?_⟩) ?_ ?_
        rotate_left
        · intro w'
          go_simp
          with_reducible rfl
        rotate_left
        · simp only [Act.put, List.setIfInBounds_toArray, List.set_cons_zero, List.set_cons_succ, i64_w, i32_w]
          rfl
        refine done_ (by kernel_rfl) ?_
        have FIN : Hid (Y2 ++ numBytes m 2 ++ p.row = encB p) := hid (by rw [YB2.out, YB.out]; unfold encB endS; rw [if_pos PK.out, if_pos (.inr PK.out), HE.out.1, HE.out.2]; unfold textS; rw [HK.out.2]; simp)
        have FL : Hid (N7 + m = (encB p).length) := hid (by rw [← FIN.out, hN7.out]; simp [HK.out.2, Nat.add_assoc])
        rw [FIN.out] at r8
        clear gb2 hB2 r2 v0 v1 v2 v3 g8 g7 hb7 b7 b8 r7 HC r2d sBd
        go_wp2
        go_ret
        exact ⟨R8, c8, by rw [← FL.out]; rfl, by rw [← HS.out]; exact r8.lower (Nat.le_succ S), by rw [← HS.out]; exact B8⟩
      · have t6 : ((kv.toNat : Int) == 2) = false := by
          rw [beq_eq_false_iff_ne]
          intro e
          have h3 : kv.toNat = 2 := by omega
          exact hk2 (UInt8.toNat_inj.1 (by simpa using h3))
        have PK : Hid (p.kind ≠ 2) := hid (by rw [← EK.1]; exact hk2)
        by_cases hk1 : kv = 1
        · have t7 : ((kv.toNat : Int) == 1) = true := by rw [hk1]; rfl
          have PK1 : Hid (p.kind = 1) := hid (by rw [← EK.1]; exact hk1)
          clear hk1 hk2 EK
          have HC := hid (fun (w' : World) (h : Row w' (S + 1) R2 c2 Y) (hs : S + 1 ≤ w'.heap.size) => put_count (n := m) YL.out h hs (by omega) (by omega))
          have sBd : S + 1 ≤ w2.drew.heap.size := sz2
          have r2d : Row w2.drew (S + 1) R2 c2 Y := r2
          go_wp2
          refine start_ (n := 9) (S := fun w' => w'.cell? ⟨S, 3, none⟩ = some (.slice B m d)) (ds := []) #[false, false, false, false, false, false, false, false, false] (by kernel_rfl) rfl rfl (v3) (fun hHeld => ?_)
          refine pure_ (i := 0) (N := some 40) (v := ?_) (a' := ?_) #[true, false, false, false, false, false, false, false, false] rfl rfl (by kernel_rfl) (fun _ _ _ h => h) (Or.inl ⟨by rfl, ?_⟩) ?_ ?_
          rotate_left
          · intro w'
            go_simp
            with_reducible rfl
          rotate_left
          · simp only [Act.put, List.setIfInBounds_toArray, List.set_cons_zero, List.set_cons_succ, i64_w, i32_w]
            rfl
          refine pure_ (i := 1) (N := some 41) (v := ?_) (a' := ?_) #[true, true, false, false, false, false, false, false, false] rfl rfl (by kernel_rfl) (fun _ _ _ h => h) (Or.inl ⟨by rfl, ?_⟩) ?_ ?_
          rotate_left
          · intro w'
            go_simp
            with_reducible rfl
          rotate_left
          · simp only [Act.put, List.setIfInBounds_toArray, List.set_cons_zero, List.set_cons_succ, i64_w, i32_w]
            rfl
          refine pure_ (i := 5) (N := some 45) (v := ?_) (a' := ?_) #[true, true, false, false, false, true, false, false, false] rfl rfl (by kernel_rfl) (fun _ _ _ h => h) (Or.inl ⟨by rfl, ?_⟩) ?_ ?_
          rotate_left
          · intro w'
            go_simp
            with_reducible rfl
          rotate_left
          · simp only [Act.put, List.setIfInBounds_toArray, List.set_cons_zero, List.set_cons_succ, i64_w, i32_w]
            rfl
          refine take_ (i := 2) (N := some 42) (v := ?_) (a' := ?_) #[true, true, true, false, false, true, false, false, false] rfl rfl (by kernel_rfl) (fun _ _ _ h => h) (Or.inl ⟨by rfl, ?_⟩) hHeld ?_ ?_
          rotate_left
          · intro w' s0
            go_simp
            with_reducible rfl
          rotate_left
          · simp only [Act.put, List.setIfInBounds_toArray, List.set_cons_zero, List.set_cons_succ, i64_w, i32_w]
            rfl
          refine pure_ (i := 3) (N := some 43) (v := ?_) (a' := ?_) #[true, true, true, true, false, true, false, false, false] rfl rfl (by kernel_rfl) (fun _ _ _ h => h) (Or.inl ⟨by rfl, ?_⟩) ?_ ?_
          rotate_left
          · intro w'
            go_simp
            with_reducible rfl
          rotate_left
          · simp only [Act.put, List.setIfInBounds_toArray, List.set_cons_zero, List.set_cons_succ, i64_w, i32_w]
            rfl
          refine take_ (i := 6) (N := some 46) (v := ?_) (a' := ?_) #[true, true, true, true, false, true, true, false, false] rfl rfl (by kernel_rfl) (fun _ _ _ h => h) (Or.inl ⟨by rfl, ?_⟩) hHeld ?_ ?_
          rotate_left
          · intro w' s0
            go_simp
            with_reducible rfl
          rotate_left
          · simp only [Act.put, List.setIfInBounds_toArray, List.set_cons_zero, List.set_cons_succ, i64_w, i32_w]
            rfl
          refine one_ (i := 4) (N := some 44) #[true, true, true, true, true, true, true, false, false] rfl rfl (by kernel_rfl) (by decide) (fun K hK => ?_)
          refine goes_ Tryz.func214 (by kernel_rfl) rfl #[.slice R2 (N + 1) c2, .int .i64 (m : Int)] (by rfl) rfl rfl (by simp only [List.map_toArray, List.map_cons, List.map_nil]; rfl) ?_
          with_reducible refine ((HC.out _ r2d sBd)).mono ?_
          rintro e' w7 ⟨R7, c7, N7, hN7, rfl, r7, b7⟩
          refine ⟨_, rfl, ?_⟩
          have g7 := (b7.block S (by omega)).trans (show w2.drew.heap[S]? = _ from gb2)
          have B7 : Below S w w7 := hB2.drew.trans (b7.mono (Nat.le_succ S))
          have hb7 := HB.out.below (show Below w.heap.size w w7 by rw [← HS.out]; exact B7)
          have s7 : S + 1 ≤ w7.heap.size := by have := lt_of_block g7; omega
          refine hK.out _ _ ((cell_at g7 rfl)) (fun hHeld => ?_)
          clear hK K
          refine norm_ (a' := ?_) ?_ ?_
          rotate_left
          · show Act.put _ (some 44) _ = _
            simp only [Act.put, List.setIfInBounds_toArray, List.set_cons_zero, List.set_cons_succ, i64_w, i32_w]
            rfl
          refine one_ (i := 7) (N := some 47) #[true, true, true, true, true, true, true, true, false] rfl rfl (by kernel_rfl) (by decide) (fun K hK => ?_)
          refine step_appO rfl (.tmp 44) (.tmp 46) rfl (S + 1) s7 R7 c7 N7 (Y ++ numBytes m 2) rfl hN7.out.symm r7 B d m p.row rfl HK.out.2 hb7 (by rw [hN7.out, List.length_append, numBytes_length]; have := YL.out; omega) ?_
          intro R8 c8 w8 r8 b8
          have g8 := (b8.block S (by omega)).trans g7
          have B8 := B7.trans (b8.mono (Nat.le_succ S))
          refine hK.out _ _ ((cell_at g8 rfl)) (fun hHeld => ?_)
          clear hK K
          refine norm_ (a' := ?_) ?_ ?_
          rotate_left
          · show Act.put _ (some 47) _ = _
            simp only [Act.put, List.setIfInBounds_toArray, List.set_cons_zero, List.set_cons_succ, i64_w, i32_w]
            rfl
          refine pure_ (i := 8) (N := some 3) (v := ?_) (a' := ?_) #[true, true, true, true, true, true, true, true, true] rfl rfl (by kernel_rfl) (fun _ _ _ h => h) (Or.inl ⟨by rfl, ?_⟩) ?_ ?_
          rotate_left
          · intro w'
            go_simp
            with_reducible rfl
          rotate_left
          · simp only [Act.put, List.setIfInBounds_toArray, List.set_cons_zero, List.set_cons_succ, i64_w, i32_w]
            rfl
          refine done_ (by kernel_rfl) ?_
          have FIN : Hid (Y ++ numBytes m 2 ++ p.row = encB p) := hid (by rw [YB.out]; unfold encB endS; rw [if_neg PK.out, if_pos (.inl PK1.out), HE.out.1]; unfold textS; rw [HK.out.2]; simp)
          have FL : Hid (N7 + m = (encB p).length) := hid (by rw [← FIN.out, hN7.out]; simp [HK.out.2, Nat.add_assoc])
          rw [FIN.out] at r8
          clear gb2 hB2 r2 v0 v1 v2 v3 g8 g7 hb7 b7 b8 r7 HC r2d sBd
          go_wp2
          go_ret
          exact ⟨R8, c8, by rw [← FL.out]; rfl, by rw [← HS.out]; exact r8.lower (Nat.le_succ S), by rw [← HS.out]; exact B8⟩
        · have t7 : ((kv.toNat : Int) == 1) = false := by
            rw [beq_eq_false_iff_ne]
            intro e
            have h3 : kv.toNat = 1 := by omega
            exact hk1 (UInt8.toNat_inj.1 (by simpa using h3))
          have PK1 : Hid (p.kind ≠ 1) := hid (by rw [← EK.1]; exact hk1)
          have FIN : Hid (Y = encB p) := hid (by rw [YB.out]; unfold encB endS; rw [if_neg PK.out, if_neg (by intro e; rcases e with e | e; exact PK1.out e; exact PK.out e), HE.out.1]; simp)
          rw [FIN.out] at r2 YL
          clear hk1 hk2 EK gb2 v0 v2 v3
          go_wp2
          go_ret
          exact ⟨R2, c2, by rw [YL.out]; rfl, by rw [← HS.out]; exact r2.lower (Nat.le_succ S), by rw [← HS.out]; exact hB2⟩
end Go.Proofs.YtdhhaibefifdmaaGreatDoor

/- The walks of the reference's blob and Encode. -/
namespace Go.Proofs.YtdhhaibefifdmaaGreatDoor
open Go.RowKit PrintLast

/-- What a call leaves that makes bytes; their number under a name. -/
def GaveN (w : World) (L : List UInt8) (e : Ending) (w' : World) : Prop := ∃ A' c' N, Hid (N = L.length) ∧ e = .returned (.slice A' N c') ∧ Row w' w.heap.size A' c' L ∧ Below w.heap.size w w'
theorem Gave.n {w w' : World} {L : List UInt8} {e : Ending} (h : Gave w L e w') : GaveN w L e w' := by
  obtain ⟨A', c', rfl, h1, h2⟩ := h
  exact ⟨A', c', L.length, hid rfl, rfl, h1, h2⟩
theorem GaveN.back {w w' : World} {L : List UInt8} {e : Ending} (h : GaveN w L e w') : Gave w L e w' := by
  obtain ⟨A', c', N, hN, rfl, h1, h2⟩ := h
  exact ⟨A', c', by rw [← hN.out], h1, h2⟩
theorem num_two {w : World} {n : Nat} : Calls Tryz.prog 100 #[.int .u64 (n : Int), .int .i64 2] w fun e w' => ∃ A c, e = .returned (.slice A 2 c) ∧ Row w' w.heap.size A c (numBytes n 2) ∧ Below w.heap.size w w' := by
  refine (num_any (n := n) (m := 2) (by omega)).mono ?_
  rintro e w' ⟨A, c, rfl, h1, _, h2⟩
  exact ⟨A, c, rfl, h1, h2⟩

end Go.Proofs.YtdhhaibefifdmaaGreatDoor

/- The walks of Same of both, of like. -/
namespace Go.Proofs.YtdhhaibefifdmaaGreatDoor
open Go.RowKit PrintLast

def sameB (p q : Prf) : Bool := decide (p.side = q.side) && decide (p.kind = q.kind) && decide (p.key = q.key) && decide (p.row = q.row)
theorem sameB_self (p : Prf) : sameB p p = true := by simp [sameB]
/-- A proof that is read. -/
def PrfAt (w : World) (A : Option Addr) (n c : Nat) (B : Option Addr) (m d : Nat) (p : Prf) : Prop := p.side.length = n ∧ p.row.length = m ∧ n ≤ 1000000000 ∧ TxtAt w A p.side ∧ BSA w B d p.row
theorem PrfAt.below {w w' : World} {A B : Option Addr} {n c m d : Nat} {p : Prf} (h : PrfAt w A n c B m d p) (hb : Below w.heap.size w w') : PrfAt w' A n c B m d p :=
  ⟨h.1, h.2.1, h.2.2.1, h.2.2.2.1.below hb, h.2.2.2.2.below hb⟩
theorem alloc2 (w : World) (o1 o2 : Obj) : ((w.alloc o1).alloc o2).heap[w.heap.size]? = some o1 ∧ ((w.alloc o1).alloc o2).heap[w.heap.size + 1]? = some o2 ∧ Below w.heap.size w ((w.alloc o1).alloc o2) := by
  have s1 : (w.alloc o1).heap.size = w.heap.size + 1 := by simp
  have h1 := heap_alloc_new w o1
  have h2 := heap_alloc_new (w.alloc o1) o2
  rw [s1] at h2
  have b1 := below_alloc (Below.refl _ (w.alloc o1)) o2
  exact ⟨below_heap b1 h1, h2, below_alloc (below_alloc (Below.refl _ w) o1) o2⟩
theorem kind_bne {a b : UInt8} (h : a ≠ b) : ((a.toNat : Int) == (b.toNat : Int)) = false := by
  rw [beq_eq_false_iff_ne]
  intro e
  exact h (UInt8.toNat_inj.1 (by omega))
/-- Bytes that are alike, their numbers under names. -/
theorem bytes_n {w : World} {A B : Option Addr} {c d n m : Nat} {x y : List UInt8} (h1 : x.length = n) (h2 : y.length = m) (hx : BSA w A c x) (hy : BSA w B d y) :
    Calls Tryz.prog 7 #[.slice A n c, .slice B m d] w fun e w' => e = .returned (.bool (decide (x = y))) ∧ Below w.heap.size w w' := by
  subst h1 h2
  exact bytes_any hx hy

end Go.Proofs.YtdhhaibefifdmaaGreatDoor
