/- Words of this claim's own: what a call keeps ('Keeps'), bytes that are read ('BS'), and one law on append. No condition. -/
import Derived.WalkKit
import Derived.OneCell
import Derived.Laws.AppendOwnNone
import Derived.Deep.AppendLies
import Derived.Laws.OwnMore
import Derived.Deep.Draws
set_option linter.unusedVariables false
set_option linter.unusedSimpArgs false
namespace Go.Proofs.YtdhhaibefifdmaaGreatDoor
open Go.RowKit

/-- What is kept from the walk's simp. -/
theorem hid {p : Prop} (h : p) : Hid p := h

/-! ### What a call keeps -/
/-- All blocks of w but those of S stand in w' as they stood. -/
structure Keeps (S : Nat → Prop) (w w' : World) : Prop where
  os : w'.os = w.os
  tape : w'.tape = w.tape
  output : w'.output = w.output
  size : w.heap.size ≤ w'.heap.size
  block : ∀ k, k < w.heap.size → ¬ S k → w'.heap[k]? = w.heap[k]?

section
variable {S S' : Nat → Prop} {a w w' : World}

theorem Keeps.refl (S : Nat → Prop) (w : World) : Keeps S w w := ⟨rfl, rfl, rfl, Nat.le_refl _, fun _ _ _ => rfl⟩

theorem Keeps.mono (h : Keeps S w w') (hs : ∀ k, k < w.heap.size → S k → S' k) : Keeps S' w w' :=
  ⟨h.os, h.tape, h.output, h.size, fun k hk hn => h.block k hk (fun e => hn (hs k hk e))⟩

theorem Keeps.then (h : Keeps S a w) (h' : Keeps S' w w') (hs : ∀ k, k < a.heap.size → S' k → S k) : Keeps S a w' :=
  ⟨h'.os.trans h.os, h'.tape.trans h.tape, h'.output.trans h.output, Nat.le_trans h.size h'.size, fun k hk hn =>
    (h'.block k (Nat.lt_of_lt_of_le hk h.size) (fun e => hn (hs k hk e))).trans (h.block k hk hn)⟩

theorem Keeps.below (h : Keeps S a w) (h' : Below w.heap.size w w') : Keeps S a w' :=
  h.then (S' := fun _ => False) ⟨h'.os, h'.tape, h'.output, h'.size, fun k hk _ => h'.block k hk⟩ (fun _ _ e => e.elim)

theorem Keeps.of_below (h : Below w.heap.size w w') : Keeps S w w' := (Keeps.refl S w).below h

theorem Keeps.toBelow (h : Keeps (fun _ => False) w w') : Below w.heap.size w w' := ⟨h.os, h.tape, h.output, h.size, fun k hk => h.block k hk (fun e => e)⟩

theorem Keeps.alloc (h : Keeps S a w) (o : Obj) : Keeps S a (w.alloc o) := h.below ((Below.refl _ _).alloc (Nat.le_refl _) o)
theorem Keeps.drew (h : Keeps S a w) : Keeps S a w.drew := ⟨h.os, h.tape, h.output, h.size, h.block⟩
theorem Keeps.drewN (h : Keeps S a w) (n : Nat) : Keeps S a (w.drewN n) := ⟨h.os, h.tape, h.output, h.size, h.block⟩
theorem Keeps.grown (h : Keeps S a w) {row : Option Nat} (hg : w.grownBy w' row) (hr : ∀ k, row = some k → k < a.heap.size → S k) : Keeps S a w' :=
  h.then (S' := fun k => some k = row) ⟨hg.os, hg.tape, hg.output, hg.size, fun k hk hn => hg.block k hk hn⟩ (fun k hk e => hr k e.symm hk)
theorem Keeps.setCell (h : Keeps S a w) {p : Addr} (hp : p.block < a.heap.size → S p.block) (u : Value) : Keeps S a (w.setCell p u) :=
  h.then (S' := fun k => k = p.block) ⟨rfl, rfl, rfl, by simp [World.setCell], fun k _ hn => heap_setCell_other w p k u hn⟩ (fun _ hk e => e ▸ hp (e ▸ hk))
theorem Keeps.cell (h : Keeps S w w') {p : Addr} {v : Value} (hc : w.cell? p = some v) (hn : ¬ S p.block) : w'.cell? p = some v :=
  (World.cell?_of_block (h.block p.block (World.block_lt_of_cell? w p hc) hn)).trans hc
theorem Keeps.heap (h : Keeps S w w') {k : Nat} {o : Obj} (hk : w.heap[k]? = some o) (hn : ¬ S k) : w'.heap[k]? = some o := (h.block k (lt_of_block hk) hn).trans hk
theorem Keeps.own (h : Keeps S w w') {base e size n : Nat} {v : Value} {xs : List Value} (ho : w.ownsRow base e size v n xs) (hn : ∀ k, v.ownBlock = some k → ¬ S k) : w'.ownsRow base e size v n xs := by
  refine ⟨ho.1, ?_⟩
  rcases ho.2 with hl | ⟨g, cap, cur, rfl, hb, hgg, rest⟩
  · exact .inl hl
  · exact .inr ⟨g, cap, cur, rfl, hb, h.heap hgg (hn g rfl), rest⟩
end

theorem below_heap {w w' : World} (h : Below w.heap.size w w') {k : Nat} {o : Obj} (hk : w.heap[k]? = some o) : w'.heap[k]? = some o := (h.block k (lt_of_block hk)).trans hk
theorem below_cell {w w' : World} (h : Below w.heap.size w w') {p : Addr} {v : Value} (hc : w.cell? p = some v) : w'.cell? p = some v := (h.cell (World.block_lt_of_cell? w p hc)).trans hc
theorem below_own {w w' : World} (h : Below w.heap.size w w') {base e size n : Nat} {v : Value} {xs : List Value} (ho : w.ownsRow base e size v n xs) : w'.ownsRow base e size v n xs :=
  (Keeps.of_below (S := fun _ => False) h).own ho (fun _ _ e => e)
theorem below_then {a w w' : World} (h : Below a.heap.size a w) (h' : Below w.heap.size w w') : Below a.heap.size a w' :=
  h.trans (h'.mono h.size)
theorem below_alloc {a w : World} (h : Below a.heap.size a w) (o : Obj) : Below a.heap.size a (w.alloc o) := h.alloc h.size o

/-- The block that a store of one cell leaves. -/
theorem heap_set {w : World} {g i : Nat} {cs : Array Value} {t : TypeId} {v : Value} (hg : w.heap[g]? = some (.cells cs t (0, 0))) : (w.setCell ⟨g, i, none⟩ v).heap[g]? = some (.cells (cs.setIfInBounds i v) t (0, 0)) :=
  heap_setCell_same w g i cs t v hg
theorem cell_at {w : World} {g i : Nat} {cs : Array Value} {t : TypeId} {fr : Nat × Nat} {v : Value} (hg : w.heap[g]? = some (.cells cs t fr)) (hv : cs[i]? = some v) : w.cell? ⟨g, i, none⟩ = some v := by rw [cell_of_row w g i cs t fr hg]; exact hv
theorem free_at {w : World} {g : Nat} {cs : Array Value} {t : TypeId} (hg : w.heap[g]? = some (.cells cs t (0, 0))) (i : Nat) : w.frozen? ⟨g, i, none⟩ = false := frozen_of_row w g i cs t hg

/-! ### Bytes -/
def bytesV (l : List UInt8) : List Value := l.map fun c => .int .u8 (c.toNat : Int)
theorem bytesV_length (l : List UInt8) : (bytesV l).length = l.length := by simp [bytesV]
theorem bytesV_append (l m : List UInt8) : bytesV (l ++ m) = bytesV l ++ bytesV m := by simp [bytesV]
theorem bytesV_one (l : List UInt8) : ∀ u ∈ bytesV l, u.oneCell' = true := by
  intro u hu
  obtain ⟨_, _, rfl⟩ := List.mem_map.1 hu
  rfl
theorem bytesV_get (l : List UInt8) (j : Nat) (h : j < l.length) : (bytesV l)[j]? = some (.int .u8 (l[j].toNat : Int)) := by simp [bytesV, h]
theorem bytesV_some {l : List UInt8} {j : Nat} {u : Value} (h : (bytesV l)[j]? = some u) : ∃ hj : j < l.length, u = .int .u8 (l[j].toNat : Int) := by
  have hj : j < l.length := by
    have := (List.getElem?_eq_some_iff.1 h).1
    simpa [bytesV] using this
  rw [bytesV_get l j hj] at h
  exact ⟨hj, (Option.some.inj h).symm⟩

/-- A slice of bytes that reads as l: nil, empty or not, its capacity whatever. -/
def BSA (w : World) (A : Option Addr) (c : Nat) (l : List UInt8) : Prop :=
  l.length ≤ c ∧ c ≤ maxLen ∧ (A = none → c = 0) ∧ ∀ ad, A = some ad → ∀ j (h : j < l.length), w.cell? (ad.add j) = some (.int .u8 (l[j].toNat : Int))
def BS (w : World) (v : Value) (l : List UInt8) : Prop := ∃ A c, v = .slice A l.length c ∧ BSA w A c l
theorem BSA.cell {w : World} {A : Option Addr} {c : Nat} {l : List UInt8} (h : BSA w A c l) (j : Nat) (hj : j < l.length) : ∃ ad, A = some ad ∧ w.cell? (ad.add j) = some (.int .u8 (l[j].toNat : Int)) := by
  obtain ⟨h1, _, h3, h4⟩ := h
  cases A with
  | none => have := h3 rfl; omega
  | some ad => exact ⟨ad, rfl, h4 ad rfl j hj⟩
theorem BSA.le {w : World} {A : Option Addr} {c : Nat} {l : List UInt8} (h : BSA w A c l) : l.length ≤ 9223372036854775807 := by have := h.1; have := h.2.1; unfold maxLen at *; omega
theorem BSA.moved {w w' : World} {A : Option Addr} {c : Nat} {l : List UInt8} (h : BSA w A c l) (hm : ∀ ad v, w.cell? ad = some v → (∃ a0 j, A = some a0 ∧ ad = a0.add j) → w'.cell? ad = some v) : BSA w' A c l :=
  ⟨h.1, h.2.1, h.2.2.1, fun ad e j hj => hm _ _ (h.2.2.2 ad e j hj) ⟨ad, j, e, rfl⟩⟩
theorem BSA.below {w w' : World} {A : Option Addr} {c : Nat} {l : List UInt8} (h : BSA w A c l) (hb : Below w.heap.size w w') : BSA w' A c l := h.moved fun _ _ hv _ => below_cell hb hv
theorem BS.below {w w' : World} {v : Value} {l : List UInt8} (h : BS w v l) (hb : Below w.heap.size w w') : BS w' v l := let ⟨A, c, e, h⟩ := h; ⟨A, c, e, h.below hb⟩
theorem addr_add_block (ad : Addr) (j : Nat) : (ad.add j).block = ad.block := by unfold Addr.add; split <;> rfl
theorem BSA.keeps' {S : Nat → Prop} {w w' : World} {A : Option Addr} {c : Nat} {l : List UInt8} (h : BSA w A c l) (hk : Keeps S w w') (hn : ∀ ad, A = some ad → 0 < l.length → ¬ S ad.block) : BSA w' A c l :=
  ⟨h.1, h.2.1, h.2.2.1, fun ad e j hj => hk.cell (h.2.2.2 ad e j hj) (by rw [addr_add_block]; exact hn ad e (by omega))⟩
theorem BSA.keeps {S : Nat → Prop} {w w' : World} {A : Option Addr} {c : Nat} {l : List UInt8} (h : BSA w A c l) (hk : Keeps S w w') (hn : ∀ ad, A = some ad → ¬ S ad.block) : BSA w' A c l :=
  h.moved fun _ _ hv ⟨a0, j, e, ha⟩ => hk.cell hv (by subst ha; rw [addr_add_block]; exact hn a0 e)
theorem BSA.nil (w : World) : BSA w none 0 [] := ⟨by simp, by unfold maxLen; omega, fun _ => rfl, fun _ e => by cases e⟩
theorem BS.nil (w : World) : BS w (.slice none 0 0) [] := ⟨none, 0, rfl, BSA.nil w⟩

theorem add_plain (g j : Nat) : (⟨g, 0, none⟩ : Addr).add j = ⟨g, j, none⟩ := by unfold Addr.add; split <;> simp_all

/-- A row of the call's own, of bytes, reads. -/
theorem own_bsa {w : World} {base e n : Nat} {A : Option Addr} {m c : Nat} {l : List UInt8} (h : w.ownsRow base e 1 (.slice A m c) n (bytesV l)) : n = l.length ∧ m = l.length ∧ BSA w A c l := by
  have h0 := h
  obtain ⟨h1, h2⟩ := h
  have hl : l.length = n := by simpa [bytesV] using h1
  rcases h2 with ⟨e1, rfl⟩ | ⟨g, cap, cur, e1, hb, hh, hn, hc, hs, ht⟩
  · cases e1
    obtain rfl := List.eq_nil_of_length_eq_zero hl
    exact ⟨rfl, rfl, BSA.nil w⟩
  · cases e1
    refine ⟨hl.symm, hl.symm, by omega, by simpa using hc, (fun e => by cases e), fun ad e j hj => ?_⟩
    cases e
    exact h0.cells (g := g) rfl j _ (bytesV_get l j hj)
theorem own_bs {w : World} {base e n : Nat} {v : Value} {l : List UInt8} (h : w.ownsRow base e 1 v n (bytesV l)) : BS w v l := by
  rcases h.2 with ⟨rfl, _⟩ | ⟨g, cap, cur, rfl, _⟩
  all_goals
    obtain ⟨h1, h2, h3⟩ := own_bsa h
    exact ⟨_, _, by rw [h2], h3⟩

/-! ### append -/
section
variable {P : Program} {w : World} {ops : Array Oper} {rest : List Oper} {o : Oper} {a : Act} {K : Act → World → Prop} {Q : Exit → Act → World → Prop} {E : Prop}
theorem oper_app (s x : Operand) (t : TypeId)
    (ho : o.op = .call { callee := .builtin .append, args := #[s, x], argTypes := #[t, t] })
    (e : TypeId) (i : TypeInfo) (z : Value) (size bytes : Nat) (ht : P.underlying t = some (.slice e)) (hi : P.info? e = some i) (hz : i.zero = some z)
    (hsize : i.size = size) (hby : i.bytes = bytes) (hzs : z.cells.size = size) (hsz : 0 < size)
    (v : Value) (n : Nat) (xs : List Value) (hs : a.eval s = v) (hown : w.ownsRow 0 e size v n xs)
    (A : Option Addr) (m c : Nat) (news : List Value) (hx : a.eval x = .slice A m c) (hl : news.length = m * size) (hnone : A = none → m = 0 ∧ c = 0) (hnews : ∀ ad, A = some ad → ∀ j u, news[j]? = some u → w.cell? (ad.add j) = some u) (h1 : ∀ u ∈ news, u.oneCell' = true)
    (h63 : n + m ≤ maxLen) (hbytes : (n + m) * bytes ≤ 140737488355328)
    (h : ∀ A' c' w', w'.ownsRow 0 e size (.slice A' (n + m) c') (n + m) (xs ++ news) → w.grownBy w' v.ownBlock → ((Value.slice A' (n + m) c').ownBlock = v.ownBlock ∨ (Value.slice A' (n + m) c').ownBlock = some w.heap.size) → (m = 0 → Value.slice A' (n + m) c' = v) → K (a.put o.dst (.slice A' (n + m) c')) w') : o.wp P a w K Q := by
  cases A with
  | none =>
    obtain ⟨rfl, rfl⟩ := hnone rfl
    have hn0 : news = [] := List.eq_nil_of_length_eq_zero (by simpa using hl)
    subst hn0
    have hrun := run_append_owned_none (P := P) (w := w) 0 t o.type e i size ht hi v n xs hown
    have same : K (a.put o.dst v) w := by
      rcases hown.2 with ⟨rfl, rfl⟩ | ⟨g, cap, cur, rfl, hb, hh, hn, hc, hcs, htk⟩
      · exact h none 0 w (by simpa using hown) (World.grownBy.refl _ _) (.inl rfl) (fun _ => rfl)
      · exact h _ cap w (by simpa using hown) (World.grownBy.refl _ _) (.inl rfl) (fun _ => rfl)
    unfold Oper.wp
    simp [execOp, ho, resolve, invoke, builtin, hs, hx, hrun, Result.andThen]
    exact same
  | some ad =>
    rcases Nat.eq_zero_or_pos m with h0 | h0
    · rcases hown.2 with ⟨rfl, rfl⟩ | ⟨g, cap, cur, rfl, hb, hh, hn, hc, hcs, htk⟩
      · refine wp_append_own w s x t ho 0 e i z size bytes ht hi hz hsize hby hzs hsz _ 0 xs hs hown ad m c news hx hl (hnews ad rfl) h1 h63 hbytes (Nat.zero_le _) ?_
        intro v' w' q1 q2 q3
        obtain rfl := q3.2 ⟨rfl, h0⟩
        subst h0
        exact h none 0 w' q1 q2 (.inl rfl) (fun _ => rfl)
      · obtain ⟨w', hrun, r1, r2⟩ := run_append_fits (P := P) w 0 t o.type e i size ht hi hsize g n cap xs hown ad m c news hl (hnews ad rfl) h1 (by omega)
        have same := h _ cap w' r1 r2 (.inl rfl) (fun e => by subst e; rfl)
        unfold Oper.wp
        simp [execOp, ho, resolve, invoke, builtin, hs, hx, hrun, Result.andThen]
        exact same
    · refine wp_append_lies w s x t ho 0 e i z size bytes ht hi hz hsize hby hzs hsz v n xs hs hown ad m c news hx hl (hnews ad rfl) h1 h0 h63 hbytes (Nat.zero_le _) w.heap.size rfl ?_
      intro g cap w' q1 q2 q3 q4
      refine h _ cap w' q1 q2 ?_ (fun e => by omega)
      rcases q3 with q3 | rfl
      · exact .inl q3.symm
      · exact .inr rfl

theorem wpList_app (hgd : o.guard = none) (s x : Operand) (t : TypeId)
    (ho : o.op = .call { callee := .builtin .append, args := #[s, x], argTypes := #[t, t] })
    (e : TypeId) (i : TypeInfo) (z : Value) (size bytes : Nat) (ht : P.underlying t = some (.slice e)) (hi : P.info? e = some i) (hz : i.zero = some z)
    (hsize : i.size = size) (hby : i.bytes = bytes) (hzs : z.cells.size = size) (hsz : 0 < size)
    (v : Value) (n : Nat) (xs : List Value) (hs : a.eval s = v) (hown : w.ownsRow 0 e size v n xs)
    (A : Option Addr) (m c : Nat) (news : List Value) (hx : a.eval x = .slice A m c) (hl : news.length = m * size) (hnone : A = none → m = 0 ∧ c = 0) (hnews : ∀ ad, A = some ad → ∀ j u, news[j]? = some u → w.cell? (ad.add j) = some u) (h1 : ∀ u ∈ news, u.oneCell' = true)
    (h63 : n + m ≤ maxLen) (hbytes : (n + m) * bytes ≤ 140737488355328)
    (h : ∀ A' c' w', w'.ownsRow 0 e size (.slice A' (n + m) c') (n + m) (xs ++ news) → w.grownBy w' v.ownBlock → ((Value.slice A' (n + m) c').ownBlock = v.ownBlock ∨ (Value.slice A' (n + m) c').ownBlock = some w.heap.size) → (m = 0 → Value.slice A' (n + m) c' = v) → wpList P ops Q rest (a.put o.dst (.slice A' (n + m) c')) w') : wpList P ops Q (o :: rest) a w :=
  wpList_plain hgd fun K hK => oper_app s x t ho e i z size bytes ht hi hz hsize hby hzs hsz v n xs hs hown A m c news hx hl hnone hnews h1 h63 hbytes fun A' c' w' h2 h3 h4 h5 => hK _ _ (h A' c' w' h2 h3 h4 h5)

theorem step_app (hgd : o.guard = none) (s x : Operand) (t : TypeId)
    (ho : o.op = .call { callee := .builtin .append, args := #[s, x], argTypes := #[t, t] })
    (e : TypeId) (i : TypeInfo) (z : Value) (size bytes : Nat) (ht : P.underlying t = some (.slice e)) (hi : P.info? e = some i) (hz : i.zero = some z)
    (hsize : i.size = size) (hby : i.bytes = bytes) (hzs : z.cells.size = size) (hsz : 0 < size)
    (v : Value) (n : Nat) (xs : List Value) (hs : a.eval s = v) (hown : w.ownsRow 0 e size v n xs)
    (A : Option Addr) (m c : Nat) (news : List Value) (hx : a.eval x = .slice A m c) (hl : news.length = m * size) (hnone : A = none → m = 0 ∧ c = 0) (hnews : ∀ ad, A = some ad → ∀ j u, news[j]? = some u → w.cell? (ad.add j) = some u) (h1 : ∀ u ∈ news, u.oneCell' = true)
    (h63 : n + m ≤ maxLen) (hbytes : (n + m) * bytes ≤ 140737488355328)
    (h : ∀ A' c' w', w'.ownsRow 0 e size (.slice A' (n + m) c') (n + m) (xs ++ news) → w.grownBy w' v.ownBlock → ((Value.slice A' (n + m) c').ownBlock = v.ownBlock ∨ (Value.slice A' (n + m) c').ownBlock = some w.heap.size) → (m = 0 → Value.slice A' (n + m) c' = v) → K (a.put o.dst (.slice A' (n + m) c')) w') :
    if Region.wanted o (yielded ops a.tmps) = true then Oper.wp P o a w K Q else E := by
  have hw : Region.wanted o (yielded ops a.tmps) = true := by simp [Region.wanted, hgd]
  rw [if_pos hw]
  exact oper_app s x t ho e i z size bytes ht hi hz hsize hby hzs hsz v n xs hs hown A m c news hx hl hnone hnews h1 h63 hbytes h

/-- The source of an append: bytes that are read. -/
theorem bsa_news {w : World} {A : Option Addr} {c : Nat} {l : List UInt8} (h : BSA w A c l) : (bytesV l).length = l.length * 1 ∧ (A = none → l.length = 0 ∧ c = 0) ∧ (∀ ad, A = some ad → ∀ j u, (bytesV l)[j]? = some u → w.cell? (ad.add j) = some u) := by
  refine ⟨by simp [bytesV], fun e => ?_, fun ad e j u hu => ?_⟩
  · have h1 := h.1
    have h3 := h.2.2.1 e
    exact ⟨by omega, h3⟩
  · obtain ⟨hj, rfl⟩ := bytesV_some hu
    exact h.2.2.2 ad e j hj

/-- 'append(s, x...)' of bytes, in the walk. -/
theorem wpList_app8 (tp te : TypeId) (ht : P.underlying tp = some (.slice te)) (hinf : (P.info? te).map (fun i => (i.zero, i.size, i.bytes)) = some (some (.int .u8 0), 1, 1)) (hgd : o.guard = none) (s x : Operand)
    (ho : o.op = .call { callee := .builtin .append, args := #[s, x], argTypes := #[tp, tp] })
    (v : Value) (xs : List UInt8) (hs : a.eval s = v) (hown : w.ownsRow 0 te 1 v xs.length (bytesV xs)) (A : Option Addr) (c : Nat) (l : List UInt8) (hx : a.eval x = .slice A l.length c) (hb : BSA w A c l)
    (h47 : xs.length + l.length ≤ 140737488355328)
    (h : ∀ A' c' w', w'.ownsRow 0 te 1 (.slice A' (xs.length + l.length) c') (xs.length + l.length) (bytesV (xs ++ l)) → w.grownBy w' v.ownBlock → ((Value.slice A' (xs.length + l.length) c').ownBlock = v.ownBlock ∨ (Value.slice A' (xs.length + l.length) c').ownBlock = some w.heap.size) → (l.length = 0 → Value.slice A' (xs.length + l.length) c' = v) → wpList P ops Q rest (a.put o.dst (.slice A' (xs.length + l.length) c')) w') : wpList P ops Q (o :: rest) a w := by
  obtain ⟨i0, hi, hz0, hz1, hz2⟩ := info_parts hinf
  obtain ⟨n1, n2, n3⟩ := bsa_news hb
  refine wpList_app hgd s x tp ho te i0 (.int .u8 0) 1 1 ht hi hz0 hz1 hz2 rfl (by decide) v xs.length (bytesV xs) hs hown A l.length c (bytesV l) hx n1 n2 n3 (bytesV_one l) (by unfold maxLen; omega) (by omega) ?_
  intro A' c' w' h1 h2 h3 h4
  exact h A' c' w' (by rw [bytesV_append]; exact h1) h2 h3 h4
theorem step_app8 (tp te : TypeId) (ht : P.underlying tp = some (.slice te)) (hinf : (P.info? te).map (fun i => (i.zero, i.size, i.bytes)) = some (some (.int .u8 0), 1, 1)) (hgd : o.guard = none) (s x : Operand)
    (ho : o.op = .call { callee := .builtin .append, args := #[s, x], argTypes := #[tp, tp] })
    (v : Value) (xs : List UInt8) (hs : a.eval s = v) (hown : w.ownsRow 0 te 1 v xs.length (bytesV xs)) (A : Option Addr) (c : Nat) (l : List UInt8) (hx : a.eval x = .slice A l.length c) (hb : BSA w A c l)
    (h47 : xs.length + l.length ≤ 140737488355328)
    (h : ∀ A' c' w', w'.ownsRow 0 te 1 (.slice A' (xs.length + l.length) c') (xs.length + l.length) (bytesV (xs ++ l)) → w.grownBy w' v.ownBlock → ((Value.slice A' (xs.length + l.length) c').ownBlock = v.ownBlock ∨ (Value.slice A' (xs.length + l.length) c').ownBlock = some w.heap.size) → (l.length = 0 → Value.slice A' (xs.length + l.length) c' = v) → K (a.put o.dst (.slice A' (xs.length + l.length) c')) w') :
    if Region.wanted o (yielded ops a.tmps) = true then Oper.wp P o a w K Q else E := by
  obtain ⟨i0, hi, hz0, hz1, hz2⟩ := info_parts hinf
  obtain ⟨n1, n2, n3⟩ := bsa_news hb
  refine step_app hgd s x tp ho te i0 (.int .u8 0) 1 1 ht hi hz0 hz1 hz2 rfl (by decide) v xs.length (bytesV xs) hs hown A l.length c (bytesV l) hx n1 n2 n3 (bytesV_one l) (by unfold maxLen; omega) (by omega) ?_
  intro A' c' w' h1 h2 h3 h4
  exact h A' c' w' (by rw [bytesV_append]; exact h1) h2 h3 h4
end
/-- An empty row that has just been made. -/
theorem own_empty (w : World) (e : TypeId) (size : Nat) : (w.alloc (.cells #[] e)).ownsRow 0 e size (.slice (some ⟨w.heap.size, 0, none⟩) 0 0) 0 [] :=
  World.ownsRow_made w #[] 0 (Nat.zero_le _) (by unfold maxLen; omega) (by simp)
end Go.Proofs.YtdhhaibefifdmaaGreatDoor
