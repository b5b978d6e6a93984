/- What TopSkew's walks lean on: what a call keeps, by the kinds of its blocks; small maps, entry by entry. -/
import Derived.Test.YtnidgljkbmceaaaGreatDoorG00
import Derived.Test.YtnidgljkbmceaaaGreatDoorChecked
import Derived.Test.YtnidgljkbmceaaaGreatDoorLast
import Derived.Maps.OwnOps
import Derived.Handy
set_option linter.unusedVariables false
set_option linter.unusedSimpArgs false
namespace Go.Proofs.YtnidgljkbmceaaaGreatDoor
open Go.RowKit PrintLast Go.Maps Go.MapKept
def MayO (ts : List TypeId) (ms rs : List Nat) (k : Nat) : Obj → Prop
  | .cells _ t _ => t ∈ ts ∨ (t = 5 ∧ k ∈ rs)
  | .map _ _ => k ∈ ms
  | _ => False
def May (ts : List TypeId) (ms rs : List Nat) (w : World) (k : Nat) : Prop := ∃ o, w.heap[k]? = some o ∧ MayO ts ms rs k o
def KT (ts : List TypeId) (ms rs : List Nat) (w w' : World) : Prop := Keeps (May ts ms rs w) w w'
section
variable {ts ts' : List TypeId} {ms ms' rs rs' : List Nat} {a w w' : World}
theorem KT.refl (ts : List TypeId) (ms rs : List Nat) (w : World) : KT ts ms rs w w := Keeps.refl _ w
theorem KT.then (h : KT ts ms rs a w) (h' : KT ts' ms' rs' w w') (h1 : ∀ t ∈ ts', t ∈ ts) (h2 : ∀ k ∈ ms', k < a.heap.size → k ∈ ms) (h3 : ∀ k ∈ rs', k < a.heap.size → k ∈ rs) : KT ts ms rs a w' := by
  refine Keeps.then h h' ?_
  rintro k hk ⟨o, ho, hm⟩
  have hm' : MayO ts ms rs k o := by
    cases o with
    | cells c t f => exact hm.imp (h1 t) (fun q => ⟨q.1, h3 k q.2 hk⟩)
    | map es n => exact h2 k hm hk
    | _ => exact hm
  apply Classical.byContradiction
  intro hn
  have e := h.block k hk hn
  exact hn ⟨o, e.symm.trans ho, hm'⟩
theorem KT.trans (h : KT ts ms rs a w) (h' : KT ts ms rs w w') : KT ts ms rs a w' := h.then h' (fun _ q => q) (fun _ q _ => q) (fun _ q _ => q)
theorem KT.mono (h : KT ts ms rs w w') (h1 : ∀ t ∈ ts, t ∈ ts') (h2 : ∀ k ∈ ms, k ∈ ms') (h3 : ∀ k ∈ rs, k ∈ rs') : KT ts' ms' rs' w w' := (KT.refl ts' ms' rs' w).then h h1 (fun k q _ => h2 k q) (fun k q _ => h3 k q)
theorem KT.below (h : KT ts ms rs a w) (h' : Below w.heap.size w w') : KT ts ms rs a w' := Keeps.below h h'
theorem KT.of_below (h : Below w.heap.size w w') : KT ts ms rs w w' := (KT.refl ts ms rs w).below h
theorem KT.toBelow (h : KT [] [] [] w w') : Below w.heap.size w w' := ⟨h.os, h.tape, h.output, h.size, fun k hk => h.block k hk (by
  rintro ⟨o, _, hm⟩
  cases o <;> simp [MayO] at hm)⟩
theorem KT.alloc (h : KT ts ms rs a w) (o : Obj) : KT ts ms rs a (w.alloc o) := Keeps.alloc h o
theorem KT.drew (h : KT ts ms rs a w) : KT ts ms rs a w.drew := Keeps.drew h
theorem KT.setNew (h : KT ts ms rs a w) {p : Addr} (hp : a.heap.size ≤ p.block) (u : Value) : KT ts ms rs a (w.setCell p u) := Keeps.setCell h (fun q => absurd q (by omega)) u
theorem KT.set (h : KT ts ms rs a w) {p : Addr} {cs : Array Value} {t : TypeId} {fr : Nat × Nat} (hb : a.heap[p.block]? = some (.cells cs t fr)) (ht : t ∈ ts) (u : Value) : KT ts ms rs a (w.setCell p u) := Keeps.setCell h (fun _ => ⟨_, hb, .inl ht⟩) u
theorem KT.grown (h : KT ts ms rs a w) {row : Option Nat} (hg : w.grownBy w' row) (hr : ∀ k, row = some k → k < a.heap.size → May ts ms rs a k) : KT ts ms rs a w' := Keeps.grown h hg hr
theorem KT.grownNew (h : KT ts ms rs a w) {row : Option Nat} (hg : w.grownBy w' row) (hr : ∀ k, row = some k → a.heap.size ≤ k) : KT ts ms rs a w' := Keeps.grown h hg (fun k e q => absurd q (by have := hr k e; omega))
theorem KT.of_map (h : KT ts ms rs a w) {b : Nat} (hg : w.grownBy w' (some b)) (hb : ∃ es n, a.heap[b]? = some (.map es n)) (hm : b ∈ ms) : KT ts ms rs a w' := h.grown hg (fun k e _ => by cases e; obtain ⟨es, n, hb⟩ := hb; exact ⟨_, hb, hm⟩)
theorem KT.of_keeps {b : Nat} {cs : Array Value} {t : TypeId} {fr : Nat × Nat} (h : Keeps (fun k => k = b) w w') (hb : w.heap[b]? = some (.cells cs t fr)) (ht : t ∈ ts) : KT ts ms rs w w' := h.mono (fun k _ e => by subst e; exact ⟨_, hb, .inl ht⟩)
theorem KT.cells (h : KT ts ms rs w w') {k : Nat} {cs : Array Value} {t : TypeId} {fr : Nat × Nat} (hk : w.heap[k]? = some (.cells cs t fr)) (ht : t ∉ ts ∧ t ≠ 5) : w'.heap[k]? = some (.cells cs t fr) := by
  refine (h.block k (lt_of_block hk) ?_).trans hk
  rintro ⟨o, ho, hm⟩
  rw [hk] at ho
  cases ho
  exact hm.elim ht.1 (fun q => ht.2 q.1)
theorem KT.u8 (h : KT ts ms rs w w') {k : Nat} {cs : Array Value} {fr : Nat × Nat} (hk : w.heap[k]? = some (.cells cs 5 fr)) (ht : 5 ∉ ts) (hm : k ∉ rs) : w'.heap[k]? = some (.cells cs 5 fr) := by
  refine (h.block k (lt_of_block hk) ?_).trans hk
  rintro ⟨o, ho, q⟩
  rw [hk] at ho
  cases ho
  exact q.elim ht (fun q => hm q.2)
theorem KT.map (h : KT ts ms rs w w') {k : Nat} {es : Array MapEntry} {n : Nat} (hk : w.heap[k]? = some (.map es n)) (hm : k ∉ ms) : w'.heap[k]? = some (.map es n) := by
  refine (h.block k (lt_of_block hk) ?_).trans hk
  rintro ⟨o, ho, q⟩
  rw [hk] at ho
  cases ho
  exact hm q
end
def KB (bs : List Nat) (ts : List TypeId) (ms rs : List Nat) (w w' : World) : Prop := KT ts ms rs w w' ∧ ∀ B, B ≤ w.heap.size → (∀ b ∈ bs, B ≤ b) → Below B w w'
section
variable {bs bs' : List Nat} {ts ts' : List TypeId} {ms ms' rs rs' : List Nat} {a w w' : World}
theorem KB.refl (bs : List Nat) (ts : List TypeId) (ms rs : List Nat) (w : World) : KB bs ts ms rs w w := ⟨KT.refl _ _ _ _, fun B _ _ => Below.refl B w⟩
theorem KB.of_below (h : Below w.heap.size w w') : KB bs ts ms rs w w' := ⟨KT.of_below h, fun B hB _ => h.mono hB⟩
theorem KB.then (h : KB bs ts ms rs a w) (h' : KB bs' ts' ms' rs' w w') (hb : ∀ b ∈ bs', b < a.heap.size → b ∈ bs) (h1 : ∀ t ∈ ts', t ∈ ts) (h2 : ∀ k ∈ ms', k < a.heap.size → k ∈ ms) (h3 : ∀ k ∈ rs', k < a.heap.size → k ∈ rs) : KB bs ts ms rs a w' :=
  ⟨h.1.then h'.1 h1 h2 h3, fun B hB hm => (h.2 B hB hm).trans (h'.2 B (Nat.le_trans hB h.1.size) (fun b q => by
    by_cases hlt : b < a.heap.size
    · exact hm b (hb b q hlt)
    · omega))⟩
theorem KB.trans (h : KB bs ts ms rs a w) (h' : KB bs ts ms rs w w') : KB bs ts ms rs a w' := h.then h' (fun _ q _ => q) (fun _ q => q) (fun _ q _ => q) (fun _ q _ => q)
theorem KB.below (h : KB bs ts ms rs a w) (h' : Below w.heap.size w w') : KB bs ts ms rs a w' := h.trans (KB.of_below h')
theorem KB.mono (h : KB bs ts ms rs w w') (hb : ∀ b ∈ bs, b ∈ bs') (h1 : ∀ t ∈ ts, t ∈ ts') (h2 : ∀ k ∈ ms, k ∈ ms') (h3 : ∀ k ∈ rs, k ∈ rs') : KB bs' ts' ms' rs' w w' := (KB.refl bs' ts' ms' rs' w).then h (fun b q _ => hb b q) h1 (fun k q _ => h2 k q) (fun k q _ => h3 k q)
theorem KB.alloc (h : KB bs ts ms rs a w) (o : Obj) : KB bs ts ms rs a (w.alloc o) := h.below (below_alloc (Below.refl _ w) o)
theorem KB.drew (h : KB bs ts ms rs a w) : KB bs ts ms rs a w.drew := h.below (Below.refl _ w).drew
theorem KB.set (h : KB bs ts ms rs a w) {p : Addr} {cs : Array Value} {t : TypeId} {fr : Nat × Nat} (hb : a.heap[p.block]? = some (.cells cs t fr)) (ht : t ∈ ts) (hm : p.block ∈ bs) (u : Value) : KB bs ts ms rs a (w.setCell p u) :=
  ⟨h.1.set hb ht u, fun B hB q => (h.2 B hB q).setCell (q _ hm) u⟩
theorem KB.of_map (h : KB bs ts ms rs a w) {b : Nat} (hg : w.grownBy w' (some b)) (hb : ∃ es n, a.heap[b]? = some (.map es n)) (hm : b ∈ ms) (hq : b ∈ bs) : KB bs ts ms rs a w' :=
  ⟨h.1.of_map hg hb hm, fun B hB q => (h.2 B hB q).grown hg (Nat.le_trans hB h.1.size) (fun k e => by cases e; exact q _ hq)⟩
theorem KB.of_keeps {b : Nat} {cs : Array Value} {t : TypeId} {fr : Nat × Nat} (h : Keeps (fun k => k = b) w w') (hb : w.heap[b]? = some (.cells cs t fr)) (ht : t ∈ ts) (hm : b ∈ bs) : KB bs ts ms rs w w' :=
  ⟨KT.of_keeps h hb ht, fun B hB q => ⟨h.os, h.tape, h.output, h.size, fun k hk => h.block k (by omega) (fun e => by have := q b hm; omega)⟩⟩
theorem KB.of_keepsM {b : Nat} {es : Array MapEntry} {n : Nat} (h : Keeps (fun k => k = b) w w') (hb : w.heap[b]? = some (.map es n)) (ht : b ∈ ms) (hm : b ∈ bs) : KB bs ts ms rs w w' :=
  ⟨h.mono (fun k _ e => by subst e; exact ⟨_, hb, ht⟩), fun B hB q => ⟨h.os, h.tape, h.output, h.size, fun k hk => h.block k (by omega) (fun e => by have := q b hm; omega)⟩⟩
end
def OwnB (w : World) (v : Value) (l : List UInt8) : Prop := w.ownsRow 0 5 1 v l.length (bytesV l)
theorem OwnB.bs {w : World} {v : Value} {l : List UInt8} (h : OwnB w v l) : ∃ A c, v = .slice A l.length c ∧ BSA w A c l := own_bs h
theorem OwnB.block {w : World} {v : Value} {l : List UInt8} (h : OwnB w v l) {k : Nat} (hk : v.ownBlock = some k) : ∃ cur, w.heap[k]? = some (.cells cur 5 (0, 0)) := by
  rcases h.2 with ⟨rfl, _⟩ | ⟨g, cap, cur, rfl, _, hh, _⟩
  · cases hk
  · cases hk; exact ⟨cur, hh⟩
theorem OwnB.lt {w : World} {v : Value} {l : List UInt8} (h : OwnB w v l) {k : Nat} (hk : v.ownBlock = some k) : k < w.heap.size := by
  obtain ⟨cur, hc⟩ := h.block hk
  exact lt_of_block hc
theorem OwnB.below {w w' : World} {v : Value} {l : List UInt8} (h : OwnB w v l) (hb : Below w.heap.size w w') : OwnB w' v l := below_own hb h
theorem OwnB.keeps {w w' : World} {v : Value} {l : List UInt8} {ts : List TypeId} {ms rs : List Nat} (h : OwnB w v l) (hk : KT ts ms rs w w') (ht : 5 ∉ ts) (hm : ∀ k, v.ownBlock = some k → k ∉ rs) : OwnB w' v l := by
  refine Keeps.own hk h (fun k e => ?_)
  rintro ⟨o, ho, q⟩
  obtain ⟨cur, hc⟩ := h.block e
  rw [hc] at ho
  cases ho
  exact q.elim ht (fun q => hm k e q.2)
section
variable {P : Program} {w : World} {T K E : TypeId} {d : TypeDesc} {b : Nat} {es : Array MapEntry} {n : Nat} {k : Value}
theorem look_hit (hT : P.underlying T = some (.map K E)) (hK : P.underlying K = some d) (hk : IsKey d k) (hb : w.heap[b]? = some (.map es n)) {i : Nat} {v : Value} (hf : Instr.findNow d k es.toList 0 = some (some (i, v))) :
    (Instr.lookup T (.map (some b)) k false).run P w = .ok v w ∧ (Instr.lookup T (.map (some b)) k true).run P w = .ok (.tuple #[v, .bool true]) w := by
  constructor <;> simp [Instr.lookup, run_underlying hT, MapKept.run_getObj_map hb, run_checkKey hK hk, run_findKey hK hf, Result.andThen]
theorem look_miss (hT : P.underlying T = some (.map K E)) (hK : P.underlying K = some d) (hk : IsKey d k) (hb : w.heap[b]? = some (.map es n)) {z : Value} (hz : (zeroValue E).run P w = .ok z w) (hf : Instr.findNow d k es.toList 0 = some none) :
    (Instr.lookup T (.map (some b)) k false).run P w = .ok z w ∧ (Instr.lookup T (.map (some b)) k true).run P w = .ok (.tuple #[z, .bool false]) w := by
  constructor <;> simp [Instr.lookup, run_underlying hT, MapKept.run_getObj_map hb, run_checkKey hK hk, run_findKey hK hf, hz, Result.andThen]
theorem grown_setObj {w : World} {b : Nat} {o o' : Obj} (hb : w.heap[b]? = some o) : w.grownBy { w with heap := w.heap.setIfInBounds b o' } (some b) ∧ ({ w with heap := w.heap.setIfInBounds b o' } : World).heap[b]? = some o' := by
  have hlt : b < w.heap.size := lt_of_block hb
  refine ⟨⟨rfl, rfl, rfl, ?_, fun k _ hn => ?_⟩, ?_⟩
  · show w.heap.size ≤ (w.heap.setIfInBounds b o').size
    simp
  · show (w.heap.setIfInBounds b o')[k]? = _
    have : b ≠ k := fun e => hn (by rw [e])
    simp [this]
  · show (w.heap.setIfInBounds b o')[b]? = _
    simp [hlt]
theorem run_put (hT : P.underlying T = some (.map K E)) (hK : P.underlying K = some d) (hk : IsKey d k) (hb : w.heap[b]? = some (.map es n)) (hf : Instr.findNow d k es.toList 0 = some none) (v : Value) :
    ∃ w', (Instr.mapUpdate T (.map (some b)) k v).run P w = .ok () w' ∧ w'.heap[b]? = some (.map (es.push ⟨k, v, n⟩) (n + 1)) ∧ w.grownBy w' (some b) := by
  obtain ⟨g1, g2⟩ := grown_setObj (o' := .map (es.push ⟨k, v, n⟩) (n + 1)) hb
  exact ⟨_, by simp [Instr.mapUpdate, run_underlying hT, MapKept.run_getObj_map hb, run_checkKey hK hk, run_findKey hK hf, MapKept.run_setObj_map _ hb, Result.andThen], g2, g1⟩
theorem run_del {ty : TypeId} {i : Nat} {v0 : Value} (hT : P.underlying T = some (.map K E)) (hK : P.underlying K = some d) (hk : IsKey d k) (hb : w.heap[b]? = some (.map es n)) (hf : Instr.findNow d k es.toList 0 = some (some (i, v0))) :
    ∃ w', (Builtin.delete_ #[T, K] ty #[.map (some b), k]).run P w = .ok (.tuple #[]) w' ∧ w'.heap[b]? = some (.map (es.eraseIdxIfInBounds i) n) ∧ w.grownBy w' (some b) := by
  obtain ⟨g1, g2⟩ := grown_setObj (o' := .map (es.eraseIdxIfInBounds i) n) hb
  exact ⟨_, by simp [Builtin.delete_, run_underlying hT, MapKept.run_getObj_map hb, run_checkKey hK hk, run_findKey hK hf, MapKept.run_setObj_map _ hb, Result.andThen], g2, g1⟩
end
section
variable {P : Program} {w : World} {ops : Array Oper} {rest : List Oper} {o : Oper} {a : Act} {Q : Exit → Act → World → Prop}
theorem oper_put {K : Act → World → Prop} (m x v : Operand) (t : TypeId) (hop : o.op = Op.mapUpdate t m x v) (hd : o.dst = none) (b : Nat) (es : Array MapEntry) (n : Nat) (key val : Value) (hm : a.eval m = .map (some b)) (hx : a.eval x = key) (hv : a.eval v = val)
    (hrun : ∃ w', (Instr.mapUpdate t (.map (some b)) key val).run P w = .ok () w' ∧ w'.heap[b]? = some (.map es n) ∧ w.grownBy w' (some b))
    (hK : ∀ w', w'.heap[b]? = some (.map es n) → w.grownBy w' (some b) → K a w') : o.wp P a w K Q := by
  obtain ⟨w', hrun, r1, r2⟩ := hrun
  unfold Oper.wp
  simp [execOp, hop, hm, hx, hv, hrun, Result.andThen]
  show K (a.put o.dst undef) w'
  rw [hd]
  exact hK w' r1 r2
theorem wpList_put (hg : o.guard = none) (m x v : Operand) (t : TypeId) (hop : o.op = Op.mapUpdate t m x v) (hd : o.dst = none) (b : Nat) (es : Array MapEntry) (n : Nat) (key val : Value) (hm : a.eval m = .map (some b)) (hx : a.eval x = key) (hv : a.eval v = val)
    (hrun : ∃ w', (Instr.mapUpdate t (.map (some b)) key val).run P w = .ok () w' ∧ w'.heap[b]? = some (.map es n) ∧ w.grownBy w' (some b))
    (hK : ∀ w', w'.heap[b]? = some (.map es n) → w.grownBy w' (some b) → wpList P ops Q rest a w') : wpList P ops Q (o :: rest) a w :=
  wpList_plain hg fun K' hK' => oper_put m x v t hop hd b es n key val hm hx hv hrun fun w' r1 r2 => hK' _ _ (hK w' r1 r2)
theorem step_put {K : Act → World → Prop} {E : Prop} (hg : o.guard = none) (m x v : Operand) (t : TypeId) (hop : o.op = Op.mapUpdate t m x v) (hd : o.dst = none) (b : Nat) (es : Array MapEntry) (n : Nat) (key val : Value) (hm : a.eval m = .map (some b)) (hx : a.eval x = key) (hv : a.eval v = val)
    (hrun : ∃ w', (Instr.mapUpdate t (.map (some b)) key val).run P w = .ok () w' ∧ w'.heap[b]? = some (.map es n) ∧ w.grownBy w' (some b))
    (hK : ∀ w', w'.heap[b]? = some (.map es n) → w.grownBy w' (some b) → K a w') : if Region.wanted o (yielded ops a.tmps) = true then Oper.wp P o a w K Q else E := by
  have hw : Region.wanted o (yielded ops a.tmps) = true := by simp [Region.wanted, hg]
  rw [if_pos hw]
  exact oper_put m x v t hop hd b es n key val hm hx hv hrun hK
theorem wpList_del (hg : o.guard = none) (m x : Operand) (t k : TypeId) (hop : o.op = .call { callee := .builtin .delete, args := #[m, x], argTypes := #[t, k] }) (b : Nat) (es : Array MapEntry) (n : Nat) (key : Value) (hm : a.eval m = .map (some b)) (hx : a.eval x = key)
    (hrun : ∃ w', (Builtin.delete_ #[t, k] o.type #[.map (some b), key]).run P w = .ok (.tuple #[]) w' ∧ w'.heap[b]? = some (.map es n) ∧ w.grownBy w' (some b))
    (hK : ∀ w', w'.heap[b]? = some (.map es n) → w.grownBy w' (some b) → wpList P ops Q rest (a.put o.dst (.tuple #[])) w') : wpList P ops Q (o :: rest) a w := by
  refine wpList_plain hg fun K' hK' => ?_
  obtain ⟨w', hrun, r1, r2⟩ := hrun
  unfold Oper.wp
  simp [execOp, hop, resolve, invoke, builtin, hm, hx, hrun, Result.andThen]
  exact hK' _ _ (hK w' r1 r2)
end
def entS (k : ByteArray) (v : Value) (n : Nat) : MapEntry := ⟨.string k, v, n⟩
theorem find_none (k : Value) (d : TypeDesc) : Instr.findNow d k (#[] : Array MapEntry).toList 0 = some none := rfl
theorem find_one (k : ByteArray) (v : Value) (n : Nat) (l : List MapEntry) : Instr.findNow .string (.string k) (entS k v n :: l) 0 = some (some (0, v)) := by
  simp [Instr.findNow, Instr.sameNow, entS, (bytes_beq k k).2 rfl]
theorem find_skip {k k' : ByteArray} (h : k ≠ k') (v : Value) (n i : Nat) (l : List MapEntry) : Instr.findNow .string (.string k) (entS k' v n :: l) i = Instr.findNow .string (.string k) l (i + 1) := by
  have : (k == k') = false := by
    cases e : k == k' with
    | false => rfl
    | true => exact absurd ((bytes_beq k k').1 e) h
  simp [Instr.findNow, Instr.sameNow, entS, this]
theorem find_at (k : ByteArray) (v : Value) (n i : Nat) (l : List MapEntry) : Instr.findNow .string (.string k) (entS k v n :: l) i = some (some (i, v)) := by
  simp [Instr.findNow, Instr.sameNow, entS, (bytes_beq k k).2 rfl]
theorem four {w : World} {g : Nat} {x y z u : Value} {t : TypeId} (h : w.heap[g]? = some (.cells #[x, y, z, u] t (0, 0))) :
    w.cell? ⟨g, 0, none⟩ = some x ∧ w.cell? ⟨g, 1, none⟩ = some y ∧ w.cell? ⟨g, 2, none⟩ = some z ∧ w.cell? ⟨g, 3, none⟩ = some u ∧ w.frozen? ⟨g, 0, none⟩ = false ∧ w.frozen? ⟨g, 1, none⟩ = false ∧ w.frozen? ⟨g, 2, none⟩ = false ∧ w.frozen? ⟨g, 3, none⟩ = false :=
  ⟨cell_at h rfl, cell_at h rfl, cell_at h rfl, cell_at h rfl, free_at h 0, free_at h 1, free_at h 2, free_at h 3⟩
end Go.Proofs.YtnidgljkbmceaaaGreatDoor
namespace Go.Proofs.YtnidgljkbmceaaaGreatDoor
def strict {α : Type} (n : Nat) (f : Nat → α) : α := Nat.rec (f 0) (fun k _ => f (k + 1)) n
theorem strict_eq {α : Type} (n : Nat) (f : Nat → α) : strict n f = f n := by cases n <;> rfl
def nRot (x k : Nat) : Nat := Nat.lor (Nat.shiftRight x k) (Nat.mod (Nat.shiftLeft x (Nat.sub 32 k)) 4294967296)
def nSig0 (x : Nat) : Nat := Nat.xor (Nat.xor (nRot x 7) (nRot x 18)) (Nat.shiftRight x 3)
def nSig1 (x : Nat) : Nat := Nat.xor (Nat.xor (nRot x 17) (nRot x 19)) (Nat.shiftRight x 10)
def nS0 (x : Nat) : Nat := Nat.xor (Nat.xor (nRot x 2) (nRot x 13)) (nRot x 22)
def nS1 (x : Nat) : Nat := Nat.xor (Nat.xor (nRot x 6) (nRot x 11)) (nRot x 25)
def nCh (e f g : Nat) : Nat := Nat.lor (Nat.land e f) (Nat.land (Nat.sub 4294967295 e) g)
def nMaj (a b c : Nat) : Nat := Nat.xor (Nat.xor (Nat.land a b) (Nat.land a c)) (Nat.land b c)
def nT (k w e f g h : Nat) : Nat := Nat.mod (Nat.add (Nat.add (Nat.add (Nat.add h (nS1 e)) (nCh e f g)) k) w) 4294967296
def nA (t a b c : Nat) : Nat := Nat.mod (Nat.add t (Nat.add (nS0 a) (nMaj a b c))) 4294967296
def nE (d t : Nat) : Nat := Nat.mod (Nat.add d t) 4294967296
def nW (w0 w9 w1 w14 : Nat) : Nat := Nat.mod (Nat.add (Nat.add (Nat.add w0 w9) (nSig0 w1)) (nSig1 w14)) 4294967296
theorem wAnd_nat (x y : UInt32) : (wAnd x y).toNat = Nat.land x.toNat y.toNat := by rw [wAnd, UInt32.toNat_and]; rfl
theorem wOr_nat (x y : UInt32) : (wOr x y).toNat = Nat.lor x.toNat y.toNat := by rw [wOr, UInt32.toNat_or]; rfl
theorem wXor_nat (x y : UInt32) : (wXor x y).toNat = Nat.xor x.toNat y.toNat := by rw [wXor, UInt32.toNat_xor]; rfl
theorem wAdd_nat (x y : UInt32) : (wAdd x y).toNat = (x.toNat + y.toNat) % 4294967296 := by rw [wAdd, UInt32.toNat_add]
theorem wNot_nat (x : UInt32) : (wNot x).toNat = 4294967295 - x.toNat := by have := word_not x; have := x.toNat_lt; omega
theorem wShr_nat (x : UInt32) (n : Nat) (h : n < 32) : (wShr x n).toNat = Nat.shiftRight x.toNat n := by
  rw [wShr, UInt32.toNat_shiftRight, UInt32.toNat_ofNat_of_lt' (by simp [UInt32.size]; omega), Nat.mod_eq_of_lt h]; rfl
theorem wShl_nat (x : UInt32) (n : Nat) (h : n < 32) : (wShl x n).toNat = Nat.mod (Nat.shiftLeft x.toNat n) 4294967296 := by
  rw [wShl, UInt32.toNat_shiftLeft, UInt32.toNat_ofNat_of_lt' (by simp [UInt32.size]; omega), Nat.mod_eq_of_lt h]; rfl
theorem rotr_nat (x : UInt32) (n : Nat) (h0 : 0 < n) (h : n < 32) : (rotr x n).toNat = nRot x.toNat n := by
  rw [rotr, wOr_nat, wShr_nat x n h, wShl_nat x (32 - n) (by omega)]; rfl
theorem sig0_nat (x : UInt32) : (sig0 x).toNat = nSig0 x.toNat := by
  rw [sig0, wXor_nat, wXor_nat, rotr_nat x 7 (by decide) (by decide), rotr_nat x 18 (by decide) (by decide), wShr_nat x 3 (by decide)]; rfl
theorem sig1_nat (x : UInt32) : (sig1 x).toNat = nSig1 x.toNat := by
  rw [sig1, wXor_nat, wXor_nat, rotr_nat x 17 (by decide) (by decide), rotr_nat x 19 (by decide) (by decide), wShr_nat x 10 (by decide)]; rfl
theorem s0_nat (x : UInt32) : (wXor (wXor (rotr x 2) (rotr x 13)) (rotr x 22)).toNat = nS0 x.toNat := by
  rw [wXor_nat, wXor_nat, rotr_nat x 2 (by decide) (by decide), rotr_nat x 13 (by decide) (by decide), rotr_nat x 22 (by decide) (by decide)]; rfl
theorem s1_nat (x : UInt32) : (wXor (wXor (rotr x 6) (rotr x 11)) (rotr x 25)).toNat = nS1 x.toNat := by
  rw [wXor_nat, wXor_nat, rotr_nat x 6 (by decide) (by decide), rotr_nat x 11 (by decide) (by decide), rotr_nat x 25 (by decide) (by decide)]; rfl
theorem choice_nat (e f g : UInt32) : (choice e f g).toNat = nCh e.toNat f.toNat g.toNat := by
  rw [choice, wOr_nat, wAnd_nat, wAnd_nat, wNot_nat]; rfl
theorem most_nat (a b c : UInt32) : (most a b c).toNat = nMaj a.toNat b.toNat c.toNat := by
  rw [most, wXor_nat, wXor_nat, wAnd_nat, wAnd_nat, wAnd_nat]; rfl
theorem roundT_nat (k w e f g h : UInt32) : (roundT k w e f g h).toNat = nT k.toNat w.toNat e.toNat f.toNat g.toNat h.toNat := by
  unfold roundT nT
  rw [wAdd_nat, wAdd_nat, wAdd_nat, wAdd_nat, s1_nat, choice_nat]
  show _ = (h.toNat + nS1 e.toNat + nCh e.toNat f.toNat g.toNat + k.toNat + w.toNat) % 4294967296
  omega
theorem nA_nat (t a b c : UInt32) : (wAdd t (roundU a b c)).toNat = nA t.toNat a.toNat b.toNat c.toNat := by
  unfold roundU nA
  rw [wAdd_nat, wAdd_nat, s0_nat, most_nat]
  show _ = (t.toNat + (nS0 a.toNat + nMaj a.toNat b.toNat c.toNat)) % 4294967296
  omega
theorem nE_nat (d t : UInt32) : (wAdd d t).toNat = nE d.toNat t.toNat := wAdd_nat d t
theorem nW_nat (a b c d : UInt32) : (wAdd (wAdd (wAdd a b) (sig0 c)) (sig1 d)).toNat = nW a.toNat b.toNat c.toNat d.toNat := by
  unfold nW
  rw [wAdd_nat, wAdd_nat, wAdd_nat, sig0_nat, sig1_nat]
  show _ = (a.toNat + b.toNat + nSig0 c.toNat + nSig1 d.toNat) % 4294967296
  omega
def nGo : List Nat → Nat → Nat → Nat → Nat → Nat → Nat → Nat → Nat → Nat → Nat → Nat → Nat → Nat → Nat → Nat → Nat → Nat → Nat → Nat → Nat → Nat → Nat → Nat → Nat → Nat
  | [], a, _, _, _, _, _, _, _, _, _, _, _, _, _, _, _, _, _, _, _, _, _, _, _ => a
  | k :: ks, a, b, c, d, e, f, g, h, w0, w1, w2, w3, w4, w5, w6, w7, w8, w9, w10, w11, w12, w13, w14, w15 =>
    strict (nT k w0 e f g h) fun t => strict (nA t a b c) fun a' => strict (nE d t) fun e' => strict (nW w0 w9 w1 w14) fun w' =>
      nGo ks a' a b c e' e f g w1 w2 w3 w4 w5 w6 w7 w8 w9 w10 w11 w12 w13 w14 w15 w'
theorem nGo_step (k : Nat) (ks : List Nat) (a b c d e f g h w0 w1 w2 w3 w4 w5 w6 w7 w8 w9 w10 w11 w12 w13 w14 w15 : Nat) : nGo (k :: ks) a b c d e f g h w0 w1 w2 w3 w4 w5 w6 w7 w8 w9 w10 w11 w12 w13 w14 w15 = nGo ks (nA (nT k w0 e f g h) a b c) a b c (nE d (nT k w0 e f g h)) e f g w1 w2 w3 w4 w5 w6 w7 w8 w9 w10 w11 w12 w13 w14 w15 (nW w0 w9 w1 w14) := by
  show (strict (nT k w0 e f g h) fun t => strict (nA t a b c) fun a' => strict (nE d t) fun e' => strict (nW w0 w9 w1 w14) fun w' => nGo ks a' a b c e' e f g w1 w2 w3 w4 w5 w6 w7 w8 w9 w10 w11 w12 w13 w14 w15 w') = _
  rw [strict_eq, strict_eq, strict_eq, strict_eq]
def nK : List Nat := [1116352408, 1899447441, 3049323471, 3921009573, 961987163, 1508970993, 2453635748, 2870763221, 3624381080, 310598401, 607225278, 1426881987, 1925078388, 2162078206, 2614888103, 3248222580, 3835390401, 4022224774, 264347078, 604807628, 770255983, 1249150122, 1555081692, 1996064986, 2554220882, 2821834349, 2952996808, 3210313671, 3336571891, 3584528711, 113926993, 338241895, 666307205, 773529912, 1294757372, 1396182291, 1695183700, 1986661051, 2177026350, 2456956037, 2730485921, 2820302411, 3259730800, 3345764771, 3516065817, 3600352804, 4094571909, 275423344, 430227734, 506948616, 659060556, 883997877, 958139571, 1322822218, 1537002063, 1747873779, 1955562222, 2024104815, 2227730452, 2361852424, 2428436474, 2756734187, 3204031479, 3329325298]
theorem nK_get (i : Nat) (h : i < 64) : nK.drop i = (roundK.getD i 0).toNat :: nK.drop (i + 1) := by
  have hl : i < nK.length := h
  have e : ∀ j, j < 64 → nK.getD j 0 = (roundK.getD j 0).toNat := by decide +kernel
  rw [List.drop_eq_getElem_cons hl, ← e i h, List.getD_eq_getElem?_getD, List.getElem?_eq_getElem hl]; rfl
set_option maxHeartbeats 1600000 in
theorem nGo_spec (m : List UInt32) (hm : m.length = 16) : ∀ (n i : Nat), i + n = 64 → ∀ (a b c d e f g h : UInt32) (w0 w1 w2 w3 w4 w5 w6 w7 w8 w9 w10 w11 w12 w13 w14 w15 : Nat), rounds m i first = [a, b, c, d, e, f, g, h] → (i + 0 < 64 → w0 = (W m (i + 0)).toNat) → (i + 1 < 64 → w1 = (W m (i + 1)).toNat) → (i + 2 < 64 → w2 = (W m (i + 2)).toNat) → (i + 3 < 64 → w3 = (W m (i + 3)).toNat) → (i + 4 < 64 → w4 = (W m (i + 4)).toNat) → (i + 5 < 64 → w5 = (W m (i + 5)).toNat) → (i + 6 < 64 → w6 = (W m (i + 6)).toNat) → (i + 7 < 64 → w7 = (W m (i + 7)).toNat) → (i + 8 < 64 → w8 = (W m (i + 8)).toNat) → (i + 9 < 64 → w9 = (W m (i + 9)).toNat) → (i + 10 < 64 → w10 = (W m (i + 10)).toNat) → (i + 11 < 64 → w11 = (W m (i + 11)).toNat) → (i + 12 < 64 → w12 = (W m (i + 12)).toNat) → (i + 13 < 64 → w13 = (W m (i + 13)).toNat) → (i + 14 < 64 → w14 = (W m (i + 14)).toNat) → (i + 15 < 64 → w15 = (W m (i + 15)).toNat) →
    nGo (nK.drop i) a.toNat b.toNat c.toNat d.toNat e.toNat f.toNat g.toNat h.toNat w0 w1 w2 w3 w4 w5 w6 w7 w8 w9 w10 w11 w12 w13 w14 w15 = ((rounds m 64 first).getD 0 0).toNat
  | 0, i, hi, a, b, c, d, e, f, g, h, w0, w1, w2, w3, w4, w5, w6, w7, w8, w9, w10, w11, w12, w13, w14, w15, hr, h0, h1, h2, h3, h4, h5, h6, h7, h8, h9, h10, h11, h12, h13, h14, h15 => by
    obtain rfl : i = 64 := by omega
    rw [hr]; rfl
  | n + 1, i, hi, a, b, c, d, e, f, g, h, w0, w1, w2, w3, w4, w5, w6, w7, w8, w9, w10, w11, w12, w13, w14, w15, hr, h0, h1, h2, h3, h4, h5, h6, h7, h8, h9, h10, h11, h12, h13, h14, h15 => by
    rw [nK_get i (by omega), nGo_step]
    have q0 := h0 (by omega)
    rw [Nat.add_zero] at q0
    have r1 : rounds m (i + 1) first = [wAdd (roundT (roundK.getD i 0) (W m i) e f g h) (roundU a b c), a, b, c, wAdd d (roundT (roundK.getD i 0) (W m i) e f g h), e, f, g] := by
      show step (roundK.getD i 0) (W m i) (rounds m i first) = _
      rw [hr]; rfl
    have tn : nT (roundK.getD i 0).toNat w0 e.toNat f.toNat g.toNat h.toNat = (roundT (roundK.getD i 0) (W m i) e f g h).toNat := by rw [roundT_nat, q0]
    rw [tn, ← nA_nat, ← nE_nat]
    refine nGo_spec m hm n (i + 1) (by omega) _ a b c _ e f g w1 w2 w3 w4 w5 w6 w7 w8 w9 w10 w11 w12 w13 w14 w15 (nW w0 w9 w1 w14) r1 (fun hx => by rw [show i + 1 + 0 = i + 1 by omega]; exact h1 (by omega)) (fun hx => by rw [show i + 1 + 1 = i + 2 by omega]; exact h2 (by omega)) (fun hx => by rw [show i + 1 + 2 = i + 3 by omega]; exact h3 (by omega)) (fun hx => by rw [show i + 1 + 3 = i + 4 by omega]; exact h4 (by omega)) (fun hx => by rw [show i + 1 + 4 = i + 5 by omega]; exact h5 (by omega)) (fun hx => by rw [show i + 1 + 5 = i + 6 by omega]; exact h6 (by omega)) (fun hx => by rw [show i + 1 + 6 = i + 7 by omega]; exact h7 (by omega)) (fun hx => by rw [show i + 1 + 7 = i + 8 by omega]; exact h8 (by omega)) (fun hx => by rw [show i + 1 + 8 = i + 9 by omega]; exact h9 (by omega)) (fun hx => by rw [show i + 1 + 9 = i + 10 by omega]; exact h10 (by omega)) (fun hx => by rw [show i + 1 + 10 = i + 11 by omega]; exact h11 (by omega)) (fun hx => by rw [show i + 1 + 11 = i + 12 by omega]; exact h12 (by omega)) (fun hx => by rw [show i + 1 + 12 = i + 13 by omega]; exact h13 (by omega)) (fun hx => by rw [show i + 1 + 13 = i + 14 by omega]; exact h14 (by omega)) (fun hx => by rw [show i + 1 + 14 = i + 15 by omega]; exact h15 (by omega)) ?_
    intro hx
    rw [show i + 1 + 15 = i + 16 by omega]
    rw [W_next hm (by omega) (by omega), nW_nat, q0, h9 (by omega), h1 (by omega), h14 (by omega)]
    rw [show i + 16 - 16 = i by omega, show i + 16 - 7 = i + 9 by omega, show i + 16 - 15 = i + 1 by omega, show i + 16 - 2 = i + 14 by omega]
def nWord (n : Nat) : Nat := strict (n * 65536 + 32768) fun w => strict (nGo nK 1779033703 3144134277 1013904242 2773480762 1359893119 2600822924 528734635 1541459225 163840 0 w 0 0 0 0 0 0 0 0 0 0 0 0 80) fun x => Nat.mod (Nat.add 1779033703 x) 4294967296
def keyN (n : Nat) : List UInt8 := [0, 2, 128, 0, 0, 0, 0, 0, UInt8.ofNat (n / 256), UInt8.ofNat (n % 256)]
theorem push_nat (x : UInt32) (b : UInt8) (h : x.toNat < 16777216) : (wOr (wShl x 8) b.toUInt32).toNat = x.toNat * 256 + b.toNat := by
  have hb : b.toNat < 256 := b.toNat_lt
  rw [wOr_nat, wShl_nat x 8 (by decide)]
  have e1 : Nat.mod (Nat.shiftLeft x.toNat 8) 4294967296 = x.toNat <<< 8 := by
    show (x.toNat <<< 8) % 4294967296 = _
    rw [Nat.shiftLeft_eq]; omega
  rw [e1]
  show x.toNat <<< 8 ||| b.toUInt32.toNat = _
  rw [UInt8.toNat_toUInt32, ← Nat.shiftLeft_add_eq_or_of_lt hb, Nat.shiftLeft_eq]
theorem be_nat (p q r s : UInt8) : (be [p, q, r, s]).toNat = ((p.toNat * 256 + q.toNat) * 256 + r.toNat) * 256 + s.toNat := by
  have hp := p.toNat_lt
  have hq := q.toNat_lt
  have hr := r.toNat_lt
  unfold be
  simp only [List.foldl_cons, List.foldl_nil]
  have e0 : (wOr (wShl 0 8) p.toUInt32).toNat = p.toNat := by rw [push_nat 0 p (by decide)]; simp
  have e1 := push_nat (wOr (wShl 0 8) p.toUInt32) q (by omega)
  have e2 := push_nat _ r (by rw [e1]; omega)
  have e3 := push_nat _ s (by rw [e2]; omega)
  rw [e3, e2, e1, e0]
def keyM (x : UInt32) : List UInt32 := [163840, 0, x, 0, 0, 0, 0, 0, 0, 0, 0, 0, 0, 0, 0, 80]
theorem keyN_words (n : Nat) : ∃ P : List UInt8, padded (keyN n) = P ∧ P.length = 64 ∧ wordsOf P = keyM (be [UInt8.ofNat (n / 256), UInt8.ofNat (n % 256), 128, 0]) := by
  refine ⟨_, rfl, ?_, ?_⟩
  · rw [padded_length, show (keyN n).length = 10 from rfl]; decide
  · have e8 : eightBytes (8 * (keyN n).length) = [0, 0, 0, 0, 0, 0, 0, 80] := by
      show eightBytes 80 = _
      decide +kernel
    have en : List.replicate (noughts (keyN n).length) (0 : UInt8) = List.replicate 45 0 := by rw [show (keyN n).length = 10 from rfl, show noughts 10 = 45 by decide]
    have z0 : be [0, 0, 0, 0] = 0 := by decide +kernel
    have z1 : be [0, 2, 128, 0] = 163840 := by decide +kernel
    have z2 : be [0, 0, 0, 80] = 80 := by decide +kernel
    unfold padded
    rw [e8, en]
    unfold keyN keyM
    generalize UInt8.ofNat (n / 256) = hi
    generalize UInt8.ofNat (n % 256) = lo
    show (List.range 16).map (fun j => be (chunk _ j)) = _
    show [be [0, 2, 128, 0], be [0, 0, 0, 0], be [hi, lo, 128, 0], be [0, 0, 0, 0], be [0, 0, 0, 0], be [0, 0, 0, 0], be [0, 0, 0, 0], be [0, 0, 0, 0], be [0, 0, 0, 0], be [0, 0, 0, 0], be [0, 0, 0, 0], be [0, 0, 0, 0], be [0, 0, 0, 0], be [0, 0, 0, 0], be [0, 0, 0, 0], be [0, 0, 0, 80]] = _
    rw [z0, z1, z2]
theorem keyN_first (n : Nat) (hn : n < 65536) : ∃ (x : UInt32) (l : List UInt8), x.toNat = nWord n ∧ sum256 (keyN n) = fourBytes x ++ l := by
  obtain ⟨P, hp, hl, hw⟩ := keyN_words n
  have hx := be_nat (UInt8.ofNat (n / 256)) (UInt8.ofNat (n % 256)) 128 0
  generalize be [UInt8.ofNat (n / 256), UInt8.ofNat (n % 256), 128, 0] = x at *
  have ex : x.toNat = n * 65536 + 32768 := by
    rw [hx, UInt8.toNat_ofNat_of_lt' (by simp [UInt8.size]; omega), UInt8.toNat_ofNat_of_lt' (by simp [UInt8.size]; omega)]
    show ((n / 256 * 256 + n % 256) * 256 + 128) * 256 + 0 = _
    omega
  have hm : (keyM x).length = 16 := rfl
  have sp := nGo_spec (keyM x) hm 64 0 (by omega) 1779033703 3144134277 1013904242 2773480762 1359893119 2600822924 528734635 1541459225 163840 0 x.toNat 0 0 0 0 0 0 0 0 0 0 0 0 80 rfl (fun _ => by rw [W_low hm (by decide)]; rfl) (fun _ => by rw [W_low hm (by decide)]; rfl) (fun _ => by rw [W_low hm (by decide)]; rfl) (fun _ => by rw [W_low hm (by decide)]; rfl) (fun _ => by rw [W_low hm (by decide)]; rfl) (fun _ => by rw [W_low hm (by decide)]; rfl) (fun _ => by rw [W_low hm (by decide)]; rfl) (fun _ => by rw [W_low hm (by decide)]; rfl) (fun _ => by rw [W_low hm (by decide)]; rfl) (fun _ => by rw [W_low hm (by decide)]; rfl) (fun _ => by rw [W_low hm (by decide)]; rfl) (fun _ => by rw [W_low hm (by decide)]; rfl) (fun _ => by rw [W_low hm (by decide)]; rfl) (fun _ => by rw [W_low hm (by decide)]; rfl) (fun _ => by rw [W_low hm (by decide)]; rfl) (fun _ => by rw [W_low hm (by decide)]; rfl)
  obtain ⟨a, b, c, d, e, f, g, i, hr⟩ := eight (rounds_length (keyM x) (s := first) rfl 64)
  refine ⟨wAdd 1779033703 a, bytesOf [wAdd 3144134277 b, wAdd 1013904242 c, wAdd 2773480762 d, wAdd 1359893119 e, wAdd 2600822924 f, wAdd 528734635 g, wAdd 1541459225 i], ?_, ?_⟩
  · rw [hr] at sp
    rw [wAdd_nat]
    unfold nWord
    rw [strict_eq, strict_eq, ← ex]
    have sp' : nGo nK 1779033703 3144134277 1013904242 2773480762 1359893119 2600822924 528734635 1541459225 163840 0 x.toNat 0 0 0 0 0 0 0 0 0 0 0 0 80 = a.toNat := sp
    rw [sp']; rfl
  · unfold sum256
    rw [hp, run_block (by rw [hl]; exact Nat.le_refl _), List.take_of_length_le (by rw [hl]; exact Nat.le_refl _), hw, run_short (by rw [List.length_drop, hl]; decide)]
    show bytesOf (List.zipWith wAdd first (rounds (keyM x) 64 first)) = _
    rw [hr]; rfl
theorem four_inj {x y : UInt32} {l m : List UInt8} (h : fourBytes x ++ l = fourBytes y ++ m) : x.toNat = y.toNat := by
  have hx := x.toNat_lt
  have hy := y.toNat_lt
  have h4 : fourBytes x = fourBytes y := (List.append_inj h (by rw [fourBytes_length, fourBytes_length])).1
  have e : ∀ z : UInt32, fourBytes z = [UInt8.ofNat (z.toNat / 16777216), UInt8.ofNat (z.toNat / 65536), UInt8.ofNat (z.toNat / 256), UInt8.ofNat (z.toNat / 1)] := fun _ => rfl
  rw [e, e] at h4
  injection h4 with a1 h4
  injection h4 with a2 h4
  injection h4 with a3 h4
  injection h4 with a4 h4
  have q : ∀ u v : Nat, UInt8.ofNat u = UInt8.ofNat v → u % 256 = v % 256 := fun u v h => by
    have := congrArg UInt8.toNat h
    simpa using this
  have b1 := q _ _ a1
  have b2 := q _ _ a2
  have b3 := q _ _ a3
  have b4 := q _ _ a4
  omega
end Go.Proofs.YtnidgljkbmceaaaGreatDoor
namespace Go.Proofs.YtnidgljkbmceaaaGreatDoor
open Go.RowKit PrintLast
def valV (n : Nat) : Value := .agg #[.int .u8 1, .int .i64 (n : Int), .string ⟨#[]⟩]
theorem eight_bytes (n : Nat) (h : n < 65536) : numBytes (9223372036854775808 + n) 8 = [128, 0, 0, 0, 0, 0, UInt8.ofNat (n / 256), UInt8.ofNat (n % 256)] := by
  have e : numBytes (9223372036854775808 + n) 8 = [UInt8.ofNat ((9223372036854775808 + n) / 72057594037927936), UInt8.ofNat ((9223372036854775808 + n) / 281474976710656), UInt8.ofNat ((9223372036854775808 + n) / 1099511627776), UInt8.ofNat ((9223372036854775808 + n) / 4294967296), UInt8.ofNat ((9223372036854775808 + n) / 16777216), UInt8.ofNat ((9223372036854775808 + n) / 65536), UInt8.ofNat ((9223372036854775808 + n) / 256), UInt8.ofNat ((9223372036854775808 + n) / 1)] := rfl
  have q : ∀ u v : Nat, u % 256 = v % 256 → UInt8.ofNat u = UInt8.ofNat v := fun u v h => by
    apply UInt8.toNat_inj.1
    simpa using h
  rw [e]
  rw [q ((9223372036854775808 + n) / 72057594037927936) 128 (by omega), q ((9223372036854775808 + n) / 281474976710656) 0 (by omega), q ((9223372036854775808 + n) / 1099511627776) 0 (by omega), q ((9223372036854775808 + n) / 4294967296) 0 (by omega), q ((9223372036854775808 + n) / 16777216) 0 (by omega), q ((9223372036854775808 + n) / 65536) 0 (by omega), q ((9223372036854775808 + n) / 256) (n / 256) (by omega), q ((9223372036854775808 + n) / 1) (n % 256) (by omega)]
  rfl
theorem vright_any {w : World} {n : Nat} : Calls Tryz.prog 223 #[valV n] w fun e w' => e = .returned (.bool true) ∧ Below w.heap.size w w' := by
  unfold valV
  go_enter Tryz.func223, Tryz.ntmps223
  go_wp2
  go_ret
  exact ⟨rfl, by go_grown⟩
theorem lit1 (w : World) (x : UInt8) : Row (w.alloc (.cells #[.int .u8 (x.toNat : Int)] 5)) w.heap.size (some ⟨w.heap.size, 0, none⟩) 1 [x] :=
  World.ownsRow_lit (e := 5) (size := 1) w (bytesV [x]).toArray 1 (Nat.le_refl _) (by unfold maxLen; omega) (by simp [bytesV])
theorem xor_sign (n : Nat) (hn : n < 65536) : n ^^^ 9223372036854775808 = 9223372036854775808 + n := by
  have e : (9223372036854775808 : Nat) = 2 ^ 63 := by decide
  rw [e]
  apply Nat.eq_of_testBit_eq
  intro i
  rw [Nat.testBit_xor, Nat.testBit_two_pow]
  by_cases h : i = 63
  · subst h
    rw [Nat.testBit_two_pow_add_eq]
    simp
  · by_cases h2 : i < 63
    · rw [Nat.testBit_two_pow_add_gt h2]
      simp [Ne.symm h]
    · have h3 : n < 2 ^ i := Nat.lt_of_lt_of_le (by omega : n < 2 ^ 64) (Nat.pow_le_pow_right (by omega) (by omega))
      have h4 : 2 ^ 63 + n < 2 ^ i := Nat.lt_of_lt_of_le (by omega : 2 ^ 63 + n < 2 ^ 64) (Nat.pow_le_pow_right (by omega) (by omega))
      rw [Nat.testBit_lt_two_pow h3, Nat.testBit_lt_two_pow h4]
      simp [Ne.symm h]
set_option maxHeartbeats 1600000 in
theorem one_any {w : World} {n : Nat} (hn : n < 65536) : Calls Tryz.prog 225 #[valV n] w fun e w' => ∃ A c, e = .returned (.slice A 9 c) ∧ Row w' w.heap.size A c (2 :: numBytes (9223372036854775808 + n) 8) ∧ Below w.heap.size w w' := by
  have ex : bits .xor .u64 (n : Int) 9223372036854775808 = ((9223372036854775808 + n : Nat) : Int) := by
    have h1 := u64_xor_nat n 9223372036854775808 (by omega) (by omega)
    rw [show ((9223372036854775808 : Nat) : Int) = 9223372036854775808 from rfl] at h1
    rw [h1, xor_sign n hn]
  have hw : (n : Int) % 18446744073709551616 = (n : Int) := by omega
  unfold valV
  obtain ⟨N, hN⟩ : ∃ N, N = 9223372036854775808 + n := ⟨_, rfl⟩
  rw [← hN] at ex ⊢
  clear hN
  go_enter Tryz.func225, Tryz.ntmps225
  go_wp2
  go_loopw [3, 5] (fun v i wr => ∃ (k : Nat) (A : Option Addr) (c : Nat), k ≤ 8 ∧ i = .int .i64 (7 - (k : Int)) ∧ v = .slice A (k + 1) c ∧ Row wr w.heap.size A c (2 :: (numBytes N 8).take k) ∧ Below w.heap.size w wr) (fun _ i _ => (intOf i + 1).toNat)
  case atStart =>
    have L := (lit1 (w.alloc (.cells #[.int .u8 1, .int .i64 (n : Int), .string ⟨#[]⟩] 32)) 2).lower (B' := w.heap.size) (by simp)
    rw [show (w.alloc (.cells #[.int .u8 1, .int .i64 (n : Int), .string ⟨#[]⟩] 32)).heap.size = w.heap.size + 1 by simp] at L
    exact ⟨0, _, 1, by omega, rfl, rfl, L, by go_grown⟩
  case round =>
    obtain ⟨k, A, c, hk, rfl, rfl, hR, hb⟩ := hrel
    by_cases hlt : k < 8
    · have tk : decide ((7 : Int) - (k : Int) ≥ 0) = true := by simp; omega
      obtain ⟨sh, hsh⟩ : ∃ s, s = 8 * (8 - 1 - k) := ⟨_, rfl⟩
      have hs64 : sh < 64 := by omega
      have e1 : 8 * ((7 : Int) - (k : Int)) = (sh : Int) := by omega
      have w3 : wrap64 (sh : Int) = (sh : Int) := by unfold wrap64; omega
      have w4 : wrap64 ((7 : Int) - (k : Int) - 1) = 7 - (k : Int) - 1 := by unfold wrap64; omega
      have HN := numBytes_next N 8 k hlt
      rw [← hsh] at HN
      have Bf := byte_div N sh
      obtain ⟨x, hx⟩ : ∃ x, x = UInt8.ofNat (N / 2 ^ sh) := ⟨_, rfl⟩
      rw [← hx] at HN Bf
      have HN' := hid HN
      have hl : (2 :: (numBytes N 8).take k).length = k + 1 := by rw [List.length_cons, List.length_take, numBytes_length]; omega
      have sB := hb.size
      have hRa := hR.below (below_alloc (Below.refl _ wr) (.cells #[.int .u8 (x.toNat : Int)] 5))
      have hba := hb.alloc sB (.cells #[.int .u8 (x.toNat : Int)] 5)
      clear HN hx hsh
      go_wp2_with (refine wpList_appR rfl (.tmp 20) (.tmp 26) rfl w.heap.size (Nat.le_trans sB (below_alloc (Below.refl _ wr) (.cells #[.int .u8 (x.toNat : Int)] 5)).size) A c (2 :: (numBytes N 8).take k) (by rw [hl]; rfl) hRa _ 1 [x] rfl (lit_bsa wr x) (by rw [hl]; simp; omega) (k + 1 + 1) (by rw [hl]; rfl) ?_)
      intro R' c' w' h1 h2 _ h3
      rw [← HN'.out] at h1
      go_wp2
      exact ⟨⟨k + 1, R', c', by omega, by go_num, rfl, h1, hba.trans h2⟩, by simp [intOf]; omega⟩
    · obtain rfl : k = 8 := by omega
      rw [List.take_of_length_le (by rw [numBytes_length]; exact Nat.le_refl _)] at hR
      go_wp2
      go_ret
      exact ⟨A, c, rfl, hR, hb⟩
set_option maxHeartbeats 1600000 in
theorem vencode_any {w : World} {n : Nat} (hn : n < 65536) : Calls Tryz.prog 188 #[valV n] w fun e w' => ∃ A c, e = .returned (.slice A 9 c) ∧ Row w' w.heap.size A c (1 :: numBytes n 8) ∧ Below w.heap.size w w' := by
  unfold valV
  obtain ⟨S, hS⟩ : ∃ S, S = w.heap.size := ⟨_, rfl⟩
  have HS := hid hS
  have G0 : (w.alloc (.cells #[.int .u8 1, .int .i64 (n : Int), .string ⟨#[]⟩] 32)).heap[S]? = some (.cells #[.int .u8 1, .int .i64 (n : Int), .string ⟨#[]⟩] 32 (0, 0)) := by rw [hS]; exact heap_alloc_new _ _
  have HG := hid G0
  clear hS G0
  go_enter Tryz.func188, Tryz.ntmps188
  go_wp2
  rw [← HS.out]
  go_loopw [3, 4] (fun v i wr => ∃ (k : Nat) (A : Option Addr) (c : Nat), k ≤ 8 ∧ i = .int .i64 (7 - (k : Int)) ∧ v = .slice A (k + 1) c ∧ Row wr (S + 1) A c (1 :: (numBytes n 8).take k) ∧ wr.heap[S]? = some (.cells #[.int .u8 1, .int .i64 (n : Int), .string ⟨#[]⟩] 32 (0, 0)) ∧ Below S w wr) (fun _ i _ => (intOf i + 1).toNat)
  case atStart =>
    have L := lit1 (w.alloc (.cells #[.int .u8 1, .int .i64 (n : Int), .string ⟨#[]⟩] 32)) 1
    rw [show (w.alloc (.cells #[.int .u8 1, .int .i64 (n : Int), .string ⟨#[]⟩] 32)).heap.size = S + 1 by rw [HS.out]; simp] at L
    refine ⟨0, some ⟨S + 1, 0, none⟩, 1, by omega, rfl, ?_, L, below_heap (below_alloc (Below.refl _ _) _) HG.out, ?_⟩
    · simp [HS.out]
    · rw [HS.out]; go_grown
  case round =>
    obtain ⟨k, A, c, hk, rfl, rfl, hR, hG, hb⟩ := hrel
    have hsz : S + 1 ≤ wr.heap.size := lt_of_block hG
    by_cases hlt : k < 8
    · have tk : decide ((7 : Int) - (k : Int) ≥ 0) = true := by simp; omega
      obtain ⟨sh, hsh⟩ : ∃ s, s = 8 * (8 - 1 - k) := ⟨_, rfl⟩
      have hs64 : sh < 64 := by omega
      have e1 : 8 * ((7 : Int) - (k : Int)) = (sh : Int) := by omega
      have w3 : wrap64 (sh : Int) = (sh : Int) := by unfold wrap64; omega
      have w4 : wrap64 ((7 : Int) - (k : Int) - 1) = 7 - (k : Int) - 1 := by unfold wrap64; omega
      have HN := numBytes_next n 8 k hlt
      rw [← hsh] at HN
      have Bf := byte_div n sh
      obtain ⟨x, hx⟩ : ∃ x, x = UInt8.ofNat (n / 2 ^ sh) := ⟨_, rfl⟩
      rw [← hx] at HN Bf
      have HN' := hid HN
      have hl : (1 :: (numBytes n 8).take k).length = k + 1 := by rw [List.length_cons, List.length_take, numBytes_length]; omega
      have sB := hb.size
      have hRa := hR.below (below_alloc (Below.refl _ wr) (.cells #[.int .u8 (x.toNat : Int)] 5))
      have hba := hid ((Below.refl (S + 1) wr).alloc hsz (.cells #[.int .u8 (x.toNat : Int)] 5))
      have c1 := cell_at hG (i := 1) rfl
      have HG1 := hid hG
      have HB := hid hb
      clear HN hx hsh hG hb
      go_wp2_with (refine wpList_appR rfl (.tmp 16) (.tmp 23) rfl (S + 1) (Nat.le_trans hsz (below_alloc (Below.refl _ wr) (.cells #[.int .u8 (x.toNat : Int)] 5)).size) A c (1 :: (numBytes n 8).take k) (by rw [hl]; rfl) hRa _ 1 [x] rfl (lit_bsa wr x) (by rw [hl]; simp; omega) (k + 1 + 1) (by rw [hl]; rfl) ?_)
      intro R' c' w' h1 h2 _ h3
      rw [← HN'.out] at h1
      have hB2 := hba.out.trans h2
      have hG2 := (hB2.block S (by omega)).trans HG1.out
      go_wp2
      exact ⟨⟨k + 1, R', c', by omega, by go_num, rfl, h1, hG2, HB.out.trans (hB2.mono (Nat.le_succ S))⟩, by simp [intOf]; omega⟩
    · obtain rfl : k = 8 := by omega
      rw [List.take_of_length_le (by rw [numBytes_length]; exact Nat.le_refl _)] at hR
      clear hG
      go_wp2
      go_ret
      exact ⟨A, c, rfl, by rw [← HS.out]; exact hR.lower (Nat.le_succ S), by rw [← HS.out]; exact hb⟩
end Go.Proofs.YtnidgljkbmceaaaGreatDoor
namespace Go.Proofs.YtnidgljkbmceaaaGreatDoor
def strB (l : List UInt8) : ByteArray := ⟨l.toArray⟩
theorem strB_list (l : List UInt8) : (strB l).data.toList = l := by simp [strB]
theorem strB_size (l : List UInt8) : (strB l).size = l.length := by simp [strB, ByteArray.size]
theorem strB_inj {a b : List UInt8} (h : strB a = strB b) : a = b := by rw [← strB_list a, h, strB_list]
structure Prf where
  side : List ByteArray
  kind : UInt8
  key : ByteArray
  row : List UInt8
def lastB (p : Prf) (l : List UInt8) : Except Nat Prf := if l = [] then .ok p else .error 2
end Go.Proofs.YtnidgljkbmceaaaGreatDoor
