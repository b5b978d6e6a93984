import Derived.WalkKit
import Derived.OneCell
import Derived.Laws.AppendOwnNone
import Derived.Deep.AppendLies
import Derived.Laws.OwnMore
import Derived.Deep.Draws
import Derived.Test.YtmbgfjcmdolggaaDoorChecked
import Derived.Test.YtmbgfjcmdolggaaDoorLast
import Derived.Outline
import Derived.WalkSpells
import Derived.WalkLawsBesides
import Derived.Lib.Builder
import Derived.Lib.UnsafeStr
import Derived.Lib.Strings
import Derived.Lib.Slices
import Derived.Laws.Externs
import Derived.Deep.LoopGhost
import Derived.Laws.BitsAllLaws
set_option linter.unusedVariables false
set_option linter.unusedSimpArgs false
/- Words of this claim's own: what a call keeps ('Keeps'), bytes that are read ('BS'), and one law on append. No condition. -/
namespace Go.Proofs.YtmbgfjcmdolggaaDoor
open Go.RowKit

/-- What is kept from the walk's simp. -/
theorem hid {p : Prop} (h : p) : Hid p := h

/-! ### What a call keeps -/
/-- All blocks of w but those of S stand in w' as they stood. -/
structure Keeps (S : Nat → Prop) (w w' : World) : Prop where
  os : w'.os = w.os
  tape : w'.tape = w.tape
  output : w'.output = w.output
  size : w.heap.size ≤ w'.heap.size
  block : ∀ k, k < w.heap.size → ¬ S k → w'.heap[k]? = w.heap[k]?

section
variable {S S' : Nat → Prop} {a w w' : World}

theorem Keeps.refl (S : Nat → Prop) (w : World) : Keeps S w w := ⟨rfl, rfl, rfl, Nat.le_refl _, fun _ _ _ => rfl⟩

theorem Keeps.mono (h : Keeps S w w') (hs : ∀ k, k < w.heap.size → S k → S' k) : Keeps S' w w' :=
  ⟨h.os, h.tape, h.output, h.size, fun k hk hn => h.block k hk (fun e => hn (hs k hk e))⟩

theorem Keeps.then (h : Keeps S a w) (h' : Keeps S' w w') (hs : ∀ k, k < a.heap.size → S' k → S k) : Keeps S a w' :=
  ⟨h'.os.trans h.os, h'.tape.trans h.tape, h'.output.trans h.output, Nat.le_trans h.size h'.size, fun k hk hn =>
    (h'.block k (Nat.lt_of_lt_of_le hk h.size) (fun e => hn (hs k hk e))).trans (h.block k hk hn)⟩

theorem Keeps.below (h : Keeps S a w) (h' : Below w.heap.size w w') : Keeps S a w' :=
  h.then (S' := fun _ => False) ⟨h'.os, h'.tape, h'.output, h'.size, fun k hk _ => h'.block k hk⟩ (fun _ _ e => e.elim)

theorem Keeps.of_below (h : Below w.heap.size w w') : Keeps S w w' := (Keeps.refl S w).below h

theorem Keeps.toBelow (h : Keeps (fun _ => False) w w') : Below w.heap.size w w' := ⟨h.os, h.tape, h.output, h.size, fun k hk => h.block k hk (fun e => e)⟩

theorem Keeps.alloc (h : Keeps S a w) (o : Obj) : Keeps S a (w.alloc o) := h.below ((Below.refl _ _).alloc (Nat.le_refl _) o)
theorem Keeps.drew (h : Keeps S a w) : Keeps S a w.drew := ⟨h.os, h.tape, h.output, h.size, h.block⟩
theorem Keeps.drewN (h : Keeps S a w) (n : Nat) : Keeps S a (w.drewN n) := ⟨h.os, h.tape, h.output, h.size, h.block⟩
theorem Keeps.grown (h : Keeps S a w) {row : Option Nat} (hg : w.grownBy w' row) (hr : ∀ k, row = some k → k < a.heap.size → S k) : Keeps S a w' :=
  h.then (S' := fun k => some k = row) ⟨hg.os, hg.tape, hg.output, hg.size, fun k hk hn => hg.block k hk hn⟩ (fun k hk e => hr k e.symm hk)
theorem Keeps.setCell (h : Keeps S a w) {p : Addr} (hp : p.block < a.heap.size → S p.block) (u : Value) : Keeps S a (w.setCell p u) :=
  h.then (S' := fun k => k = p.block) ⟨rfl, rfl, rfl, by simp [World.setCell], fun k _ hn => heap_setCell_other w p k u hn⟩ (fun _ hk e => e ▸ hp (e ▸ hk))
theorem Keeps.cell (h : Keeps S w w') {p : Addr} {v : Value} (hc : w.cell? p = some v) (hn : ¬ S p.block) : w'.cell? p = some v :=
  (World.cell?_of_block (h.block p.block (World.block_lt_of_cell? w p hc) hn)).trans hc
theorem Keeps.heap (h : Keeps S w w') {k : Nat} {o : Obj} (hk : w.heap[k]? = some o) (hn : ¬ S k) : w'.heap[k]? = some o := (h.block k (lt_of_block hk) hn).trans hk
theorem Keeps.own (h : Keeps S w w') {base e size n : Nat} {v : Value} {xs : List Value} (ho : w.ownsRow base e size v n xs) (hn : ∀ k, v.ownBlock = some k → ¬ S k) : w'.ownsRow base e size v n xs := by
  refine ⟨ho.1, ?_⟩
  rcases ho.2 with hl | ⟨g, cap, cur, rfl, hb, hgg, rest⟩
  · exact .inl hl
  · exact .inr ⟨g, cap, cur, rfl, hb, h.heap hgg (hn g rfl), rest⟩
end

theorem below_heap {w w' : World} (h : Below w.heap.size w w') {k : Nat} {o : Obj} (hk : w.heap[k]? = some o) : w'.heap[k]? = some o := (h.block k (lt_of_block hk)).trans hk
theorem below_cell {w w' : World} (h : Below w.heap.size w w') {p : Addr} {v : Value} (hc : w.cell? p = some v) : w'.cell? p = some v := (h.cell (World.block_lt_of_cell? w p hc)).trans hc
theorem below_own {w w' : World} (h : Below w.heap.size w w') {base e size n : Nat} {v : Value} {xs : List Value} (ho : w.ownsRow base e size v n xs) : w'.ownsRow base e size v n xs :=
  (Keeps.of_below (S := fun _ => False) h).own ho (fun _ _ e => e)
theorem below_then {a w w' : World} (h : Below a.heap.size a w) (h' : Below w.heap.size w w') : Below a.heap.size a w' :=
  h.trans (h'.mono h.size)
theorem below_alloc {a w : World} (h : Below a.heap.size a w) (o : Obj) : Below a.heap.size a (w.alloc o) := h.alloc h.size o

/-- The block that a store of one cell leaves. -/
theorem heap_set {w : World} {g i : Nat} {cs : Array Value} {t : TypeId} {v : Value} (hg : w.heap[g]? = some (.cells cs t (0, 0))) : (w.setCell ⟨g, i, none⟩ v).heap[g]? = some (.cells (cs.setIfInBounds i v) t (0, 0)) :=
  heap_setCell_same w g i cs t v hg
theorem cell_at {w : World} {g i : Nat} {cs : Array Value} {t : TypeId} {fr : Nat × Nat} {v : Value} (hg : w.heap[g]? = some (.cells cs t fr)) (hv : cs[i]? = some v) : w.cell? ⟨g, i, none⟩ = some v := by rw [cell_of_row w g i cs t fr hg]; exact hv
theorem free_at {w : World} {g : Nat} {cs : Array Value} {t : TypeId} (hg : w.heap[g]? = some (.cells cs t (0, 0))) (i : Nat) : w.frozen? ⟨g, i, none⟩ = false := frozen_of_row w g i cs t hg

/-! ### Bytes -/
def bytesV (l : List UInt8) : List Value := l.map fun c => .int .u8 (c.toNat : Int)
theorem bytesV_length (l : List UInt8) : (bytesV l).length = l.length := by simp [bytesV]
theorem bytesV_append (l m : List UInt8) : bytesV (l ++ m) = bytesV l ++ bytesV m := by simp [bytesV]
theorem bytesV_one (l : List UInt8) : ∀ u ∈ bytesV l, u.oneCell' = true := by
  intro u hu
  obtain ⟨_, _, rfl⟩ := List.mem_map.1 hu
  rfl
theorem bytesV_get (l : List UInt8) (j : Nat) (h : j < l.length) : (bytesV l)[j]? = some (.int .u8 (l[j].toNat : Int)) := by simp [bytesV, h]
theorem bytesV_some {l : List UInt8} {j : Nat} {u : Value} (h : (bytesV l)[j]? = some u) : ∃ hj : j < l.length, u = .int .u8 (l[j].toNat : Int) := by
  have hj : j < l.length := by
    have := (List.getElem?_eq_some_iff.1 h).1
    simpa [bytesV] using this
  rw [bytesV_get l j hj] at h
  exact ⟨hj, (Option.some.inj h).symm⟩

/-- A slice of bytes that reads as l: nil, empty or not, its capacity whatever. -/
def BSA (w : World) (A : Option Addr) (c : Nat) (l : List UInt8) : Prop :=
  l.length ≤ c ∧ c ≤ maxLen ∧ (A = none → c = 0) ∧ ∀ ad, A = some ad → ∀ j (h : j < l.length), w.cell? (ad.add j) = some (.int .u8 (l[j].toNat : Int))
def BS (w : World) (v : Value) (l : List UInt8) : Prop := ∃ A c, v = .slice A l.length c ∧ BSA w A c l
theorem BSA.cell {w : World} {A : Option Addr} {c : Nat} {l : List UInt8} (h : BSA w A c l) (j : Nat) (hj : j < l.length) : ∃ ad, A = some ad ∧ w.cell? (ad.add j) = some (.int .u8 (l[j].toNat : Int)) := by
  obtain ⟨h1, _, h3, h4⟩ := h
  cases A with
  | none => have := h3 rfl; omega
  | some ad => exact ⟨ad, rfl, h4 ad rfl j hj⟩
theorem BSA.le {w : World} {A : Option Addr} {c : Nat} {l : List UInt8} (h : BSA w A c l) : l.length ≤ 9223372036854775807 := by have := h.1; have := h.2.1; unfold maxLen at *; omega
theorem BSA.moved {w w' : World} {A : Option Addr} {c : Nat} {l : List UInt8} (h : BSA w A c l) (hm : ∀ ad v, w.cell? ad = some v → (∃ a0 j, A = some a0 ∧ ad = a0.add j) → w'.cell? ad = some v) : BSA w' A c l :=
  ⟨h.1, h.2.1, h.2.2.1, fun ad e j hj => hm _ _ (h.2.2.2 ad e j hj) ⟨ad, j, e, rfl⟩⟩
theorem BSA.below {w w' : World} {A : Option Addr} {c : Nat} {l : List UInt8} (h : BSA w A c l) (hb : Below w.heap.size w w') : BSA w' A c l := h.moved fun _ _ hv _ => below_cell hb hv
theorem BS.below {w w' : World} {v : Value} {l : List UInt8} (h : BS w v l) (hb : Below w.heap.size w w') : BS w' v l := let ⟨A, c, e, h⟩ := h; ⟨A, c, e, h.below hb⟩
theorem addr_add_block (ad : Addr) (j : Nat) : (ad.add j).block = ad.block := by unfold Addr.add; split <;> rfl
theorem BSA.keeps' {S : Nat → Prop} {w w' : World} {A : Option Addr} {c : Nat} {l : List UInt8} (h : BSA w A c l) (hk : Keeps S w w') (hn : ∀ ad, A = some ad → 0 < l.length → ¬ S ad.block) : BSA w' A c l :=
  ⟨h.1, h.2.1, h.2.2.1, fun ad e j hj => hk.cell (h.2.2.2 ad e j hj) (by rw [addr_add_block]; exact hn ad e (by omega))⟩
theorem BSA.keeps {S : Nat → Prop} {w w' : World} {A : Option Addr} {c : Nat} {l : List UInt8} (h : BSA w A c l) (hk : Keeps S w w') (hn : ∀ ad, A = some ad → ¬ S ad.block) : BSA w' A c l :=
  h.moved fun _ _ hv ⟨a0, j, e, ha⟩ => hk.cell hv (by subst ha; rw [addr_add_block]; exact hn a0 e)
theorem BSA.nil (w : World) : BSA w none 0 [] := ⟨by simp, by unfold maxLen; omega, fun _ => rfl, fun _ e => by cases e⟩
theorem BS.nil (w : World) : BS w (.slice none 0 0) [] := ⟨none, 0, rfl, BSA.nil w⟩

theorem add_plain (g j : Nat) : (⟨g, 0, none⟩ : Addr).add j = ⟨g, j, none⟩ := by unfold Addr.add; split <;> simp_all

/-- A row of the call's own, of bytes, reads. -/
theorem own_bsa {w : World} {base e n : Nat} {A : Option Addr} {m c : Nat} {l : List UInt8} (h : w.ownsRow base e 1 (.slice A m c) n (bytesV l)) : n = l.length ∧ m = l.length ∧ BSA w A c l := by
  have h0 := h
  obtain ⟨h1, h2⟩ := h
  have hl : l.length = n := by simpa [bytesV] using h1
  rcases h2 with ⟨e1, rfl⟩ | ⟨g, cap, cur, e1, hb, hh, hn, hc, hs, ht⟩
  · cases e1
    obtain rfl := List.eq_nil_of_length_eq_zero hl
    exact ⟨rfl, rfl, BSA.nil w⟩
  · cases e1
    refine ⟨hl.symm, hl.symm, by omega, by simpa using hc, (fun e => by cases e), fun ad e j hj => ?_⟩
    cases e
    exact h0.cells (g := g) rfl j _ (bytesV_get l j hj)
theorem own_bs {w : World} {base e n : Nat} {v : Value} {l : List UInt8} (h : w.ownsRow base e 1 v n (bytesV l)) : BS w v l := by
  rcases h.2 with ⟨rfl, _⟩ | ⟨g, cap, cur, rfl, _⟩
  all_goals
    obtain ⟨h1, h2, h3⟩ := own_bsa h
    exact ⟨_, _, by rw [h2], h3⟩

/-! ### append -/
section
variable {P : Program} {w : World} {ops : Array Oper} {rest : List Oper} {o : Oper} {a : Act} {K : Act → World → Prop} {Q : Exit → Act → World → Prop} {E : Prop}
theorem oper_app (s x : Operand) (t : TypeId)
    (ho : o.op = .call { callee := .builtin .append, args := #[s, x], argTypes := #[t, t] })
    (e : TypeId) (i : TypeInfo) (z : Value) (size bytes : Nat) (ht : P.underlying t = some (.slice e)) (hi : P.info? e = some i) (hz : i.zero = some z)
    (hsize : i.size = size) (hby : i.bytes = bytes) (hzs : z.cells.size = size) (hsz : 0 < size)
    (v : Value) (n : Nat) (xs : List Value) (hs : a.eval s = v) (hown : w.ownsRow 0 e size v n xs)
    (A : Option Addr) (m c : Nat) (news : List Value) (hx : a.eval x = .slice A m c) (hl : news.length = m * size) (hnone : A = none → m = 0 ∧ c = 0) (hnews : ∀ ad, A = some ad → ∀ j u, news[j]? = some u → w.cell? (ad.add j) = some u) (h1 : ∀ u ∈ news, u.oneCell' = true)
    (h63 : n + m ≤ maxLen) (hbytes : (n + m) * bytes ≤ 140737488355328)
    (h : ∀ A' c' w', w'.ownsRow 0 e size (.slice A' (n + m) c') (n + m) (xs ++ news) → w.grownBy w' v.ownBlock → ((Value.slice A' (n + m) c').ownBlock = v.ownBlock ∨ (Value.slice A' (n + m) c').ownBlock = some w.heap.size) → (m = 0 → Value.slice A' (n + m) c' = v) → K (a.put o.dst (.slice A' (n + m) c')) w') : o.wp P a w K Q := by
  cases A with
  | none =>
    obtain ⟨rfl, rfl⟩ := hnone rfl
    have hn0 : news = [] := List.eq_nil_of_length_eq_zero (by simpa using hl)
    subst hn0
    have hrun := run_append_owned_none (P := P) (w := w) 0 t o.type e i size ht hi v n xs hown
    have same : K (a.put o.dst v) w := by
      rcases hown.2 with ⟨rfl, rfl⟩ | ⟨g, cap, cur, rfl, hb, hh, hn, hc, hcs, htk⟩
      · exact h none 0 w (by simpa using hown) (World.grownBy.refl _ _) (.inl rfl) (fun _ => rfl)
      · exact h _ cap w (by simpa using hown) (World.grownBy.refl _ _) (.inl rfl) (fun _ => rfl)
    unfold Oper.wp
    simp [execOp, ho, resolve, invoke, builtin, hs, hx, hrun, Result.andThen]
    exact same
  | some ad =>
    rcases Nat.eq_zero_or_pos m with h0 | h0
    · rcases hown.2 with ⟨rfl, rfl⟩ | ⟨g, cap, cur, rfl, hb, hh, hn, hc, hcs, htk⟩
      · refine wp_append_own w s x t ho 0 e i z size bytes ht hi hz hsize hby hzs hsz _ 0 xs hs hown ad m c news hx hl (hnews ad rfl) h1 h63 hbytes (Nat.zero_le _) ?_
        intro v' w' q1 q2 q3
        obtain rfl := q3.2 ⟨rfl, h0⟩
        subst h0
        exact h none 0 w' q1 q2 (.inl rfl) (fun _ => rfl)
      · obtain ⟨w', hrun, r1, r2⟩ := run_append_fits (P := P) w 0 t o.type e i size ht hi hsize g n cap xs hown ad m c news hl (hnews ad rfl) h1 (by omega)
        have same := h _ cap w' r1 r2 (.inl rfl) (fun e => by subst e; rfl)
        unfold Oper.wp
        simp [execOp, ho, resolve, invoke, builtin, hs, hx, hrun, Result.andThen]
        exact same
    · refine wp_append_lies w s x t ho 0 e i z size bytes ht hi hz hsize hby hzs hsz v n xs hs hown ad m c news hx hl (hnews ad rfl) h1 h0 h63 hbytes (Nat.zero_le _) w.heap.size rfl ?_
      intro g cap w' q1 q2 q3 q4
      refine h _ cap w' q1 q2 ?_ (fun e => by omega)
      rcases q3 with q3 | rfl
      · exact .inl q3.symm
      · exact .inr rfl

theorem wpList_app (hgd : o.guard = none) (s x : Operand) (t : TypeId)
    (ho : o.op = .call { callee := .builtin .append, args := #[s, x], argTypes := #[t, t] })
    (e : TypeId) (i : TypeInfo) (z : Value) (size bytes : Nat) (ht : P.underlying t = some (.slice e)) (hi : P.info? e = some i) (hz : i.zero = some z)
    (hsize : i.size = size) (hby : i.bytes = bytes) (hzs : z.cells.size = size) (hsz : 0 < size)
    (v : Value) (n : Nat) (xs : List Value) (hs : a.eval s = v) (hown : w.ownsRow 0 e size v n xs)
    (A : Option Addr) (m c : Nat) (news : List Value) (hx : a.eval x = .slice A m c) (hl : news.length = m * size) (hnone : A = none → m = 0 ∧ c = 0) (hnews : ∀ ad, A = some ad → ∀ j u, news[j]? = some u → w.cell? (ad.add j) = some u) (h1 : ∀ u ∈ news, u.oneCell' = true)
    (h63 : n + m ≤ maxLen) (hbytes : (n + m) * bytes ≤ 140737488355328)
    (h : ∀ A' c' w', w'.ownsRow 0 e size (.slice A' (n + m) c') (n + m) (xs ++ news) → w.grownBy w' v.ownBlock → ((Value.slice A' (n + m) c').ownBlock = v.ownBlock ∨ (Value.slice A' (n + m) c').ownBlock = some w.heap.size) → (m = 0 → Value.slice A' (n + m) c' = v) → wpList P ops Q rest (a.put o.dst (.slice A' (n + m) c')) w') : wpList P ops Q (o :: rest) a w :=
  wpList_plain hgd fun K hK => oper_app s x t ho e i z size bytes ht hi hz hsize hby hzs hsz v n xs hs hown A m c news hx hl hnone hnews h1 h63 hbytes fun A' c' w' h2 h3 h4 h5 => hK _ _ (h A' c' w' h2 h3 h4 h5)

theorem step_app (hgd : o.guard = none) (s x : Operand) (t : TypeId)
    (ho : o.op = .call { callee := .builtin .append, args := #[s, x], argTypes := #[t, t] })
    (e : TypeId) (i : TypeInfo) (z : Value) (size bytes : Nat) (ht : P.underlying t = some (.slice e)) (hi : P.info? e = some i) (hz : i.zero = some z)
    (hsize : i.size = size) (hby : i.bytes = bytes) (hzs : z.cells.size = size) (hsz : 0 < size)
    (v : Value) (n : Nat) (xs : List Value) (hs : a.eval s = v) (hown : w.ownsRow 0 e size v n xs)
    (A : Option Addr) (m c : Nat) (news : List Value) (hx : a.eval x = .slice A m c) (hl : news.length = m * size) (hnone : A = none → m = 0 ∧ c = 0) (hnews : ∀ ad, A = some ad → ∀ j u, news[j]? = some u → w.cell? (ad.add j) = some u) (h1 : ∀ u ∈ news, u.oneCell' = true)
    (h63 : n + m ≤ maxLen) (hbytes : (n + m) * bytes ≤ 140737488355328)
    (h : ∀ A' c' w', w'.ownsRow 0 e size (.slice A' (n + m) c') (n + m) (xs ++ news) → w.grownBy w' v.ownBlock → ((Value.slice A' (n + m) c').ownBlock = v.ownBlock ∨ (Value.slice A' (n + m) c').ownBlock = some w.heap.size) → (m = 0 → Value.slice A' (n + m) c' = v) → K (a.put o.dst (.slice A' (n + m) c')) w') :
    if Region.wanted o (yielded ops a.tmps) = true then Oper.wp P o a w K Q else E := by
  have hw : Region.wanted o (yielded ops a.tmps) = true := by simp [Region.wanted, hgd]
  rw [if_pos hw]
  exact oper_app s x t ho e i z size bytes ht hi hz hsize hby hzs hsz v n xs hs hown A m c news hx hl hnone hnews h1 h63 hbytes h

/-- The source of an append: bytes that are read. -/
theorem bsa_news {w : World} {A : Option Addr} {c : Nat} {l : List UInt8} (h : BSA w A c l) : (bytesV l).length = l.length * 1 ∧ (A = none → l.length = 0 ∧ c = 0) ∧ (∀ ad, A = some ad → ∀ j u, (bytesV l)[j]? = some u → w.cell? (ad.add j) = some u) := by
  refine ⟨by simp [bytesV], fun e => ?_, fun ad e j u hu => ?_⟩
  · have h1 := h.1
    have h3 := h.2.2.1 e
    exact ⟨by omega, h3⟩
  · obtain ⟨hj, rfl⟩ := bytesV_some hu
    exact h.2.2.2 ad e j hj

/-- 'append(s, x...)' of bytes, in the walk. -/
theorem wpList_app8 (tp te : TypeId) (ht : P.underlying tp = some (.slice te)) (hinf : (P.info? te).map (fun i => (i.zero, i.size, i.bytes)) = some (some (.int .u8 0), 1, 1)) (hgd : o.guard = none) (s x : Operand)
    (ho : o.op = .call { callee := .builtin .append, args := #[s, x], argTypes := #[tp, tp] })
    (v : Value) (xs : List UInt8) (hs : a.eval s = v) (hown : w.ownsRow 0 te 1 v xs.length (bytesV xs)) (A : Option Addr) (c : Nat) (l : List UInt8) (hx : a.eval x = .slice A l.length c) (hb : BSA w A c l)
    (h47 : xs.length + l.length ≤ 140737488355328)
    (h : ∀ A' c' w', w'.ownsRow 0 te 1 (.slice A' (xs.length + l.length) c') (xs.length + l.length) (bytesV (xs ++ l)) → w.grownBy w' v.ownBlock → ((Value.slice A' (xs.length + l.length) c').ownBlock = v.ownBlock ∨ (Value.slice A' (xs.length + l.length) c').ownBlock = some w.heap.size) → (l.length = 0 → Value.slice A' (xs.length + l.length) c' = v) → wpList P ops Q rest (a.put o.dst (.slice A' (xs.length + l.length) c')) w') : wpList P ops Q (o :: rest) a w := by
  obtain ⟨i0, hi, hz0, hz1, hz2⟩ := info_parts hinf
  obtain ⟨n1, n2, n3⟩ := bsa_news hb
  refine wpList_app hgd s x tp ho te i0 (.int .u8 0) 1 1 ht hi hz0 hz1 hz2 rfl (by decide) v xs.length (bytesV xs) hs hown A l.length c (bytesV l) hx n1 n2 n3 (bytesV_one l) (by unfold maxLen; omega) (by omega) ?_
  intro A' c' w' h1 h2 h3 h4
  exact h A' c' w' (by rw [bytesV_append]; exact h1) h2 h3 h4
theorem step_app8 (tp te : TypeId) (ht : P.underlying tp = some (.slice te)) (hinf : (P.info? te).map (fun i => (i.zero, i.size, i.bytes)) = some (some (.int .u8 0), 1, 1)) (hgd : o.guard = none) (s x : Operand)
    (ho : o.op = .call { callee := .builtin .append, args := #[s, x], argTypes := #[tp, tp] })
    (v : Value) (xs : List UInt8) (hs : a.eval s = v) (hown : w.ownsRow 0 te 1 v xs.length (bytesV xs)) (A : Option Addr) (c : Nat) (l : List UInt8) (hx : a.eval x = .slice A l.length c) (hb : BSA w A c l)
    (h47 : xs.length + l.length ≤ 140737488355328)
    (h : ∀ A' c' w', w'.ownsRow 0 te 1 (.slice A' (xs.length + l.length) c') (xs.length + l.length) (bytesV (xs ++ l)) → w.grownBy w' v.ownBlock → ((Value.slice A' (xs.length + l.length) c').ownBlock = v.ownBlock ∨ (Value.slice A' (xs.length + l.length) c').ownBlock = some w.heap.size) → (l.length = 0 → Value.slice A' (xs.length + l.length) c' = v) → K (a.put o.dst (.slice A' (xs.length + l.length) c')) w') :
    if Region.wanted o (yielded ops a.tmps) = true then Oper.wp P o a w K Q else E := by
  obtain ⟨i0, hi, hz0, hz1, hz2⟩ := info_parts hinf
  obtain ⟨n1, n2, n3⟩ := bsa_news hb
  refine step_app hgd s x tp ho te i0 (.int .u8 0) 1 1 ht hi hz0 hz1 hz2 rfl (by decide) v xs.length (bytesV xs) hs hown A l.length c (bytesV l) hx n1 n2 n3 (bytesV_one l) (by unfold maxLen; omega) (by omega) ?_
  intro A' c' w' h1 h2 h3 h4
  exact h A' c' w' (by rw [bytesV_append]; exact h1) h2 h3 h4
end
/-- An empty row that has just been made. -/
theorem own_empty (w : World) (e : TypeId) (size : Nat) : (w.alloc (.cells #[] e)).ownsRow 0 e size (.slice (some ⟨w.heap.size, 0, none⟩) 0 0) 0 [] :=
  World.ownsRow_made w #[] 0 (Nat.zero_le _) (by unfold maxLen; omega) (by simp)
end Go.Proofs.YtmbgfjcmdolggaaDoor

/- The walks of strings.Builder's copyCheck, WriteByte, String. -/
namespace Go.Proofs.YtmbgfjcmdolggaaDoor
open Go.RowKit PrintLast

theorem infoBld : (Tryd.prog.info? 118).map (·.size) = some 2 := by kernel_rfl
theorem liesBld : liesAt Tryd.prog Tryd.prog.depth 118 (2 / Tryd.prog.cellsOf 118) 0 118 1 = true := by kernel_rfl
theorem infB : (Tryd.prog.info? 5).map (fun i => (i.zero, i.size, i.bytes)) = some (some (.int .u8 0), 1, 1) := by kernel_rfl

set_option maxRecDepth 100000 in
theorem check_used (b : Nat) (w : World) (h0 : w.cell? ⟨b, 0, none⟩ = some (.pointer (some ⟨b, 0, none⟩))) :
    Calls Tryd.prog 81 #[.pointer (some ⟨b, 0, none⟩)] w fun e w' => e = .returned (.tuple #[]) ∧ w' = w := by
  obtain ⟨j, hj, _⟩ := Option.map_eq_some_iff.1 infoBld
  go_enter Tryd.func81, Tryd.ntmps81
  go_wp2
  rw [Lib.run_neq_ptr_same w _ Tryd.underlying116 hj]
  go_wp2
  go_end0
  exact ⟨rfl, rfl⟩
set_option maxRecDepth 100000 in
theorem check_fresh (b : Nat) (w : World) (h0 : w.cell? ⟨b, 0, none⟩ = some (.pointer none)) (hsh : w.shape? b = some (118, 2)) (hfz : w.frozen? ⟨b, 0, none⟩ = false) :
    Calls Tryd.prog 81 #[.pointer (some ⟨b, 0, none⟩)] w fun e w' => e = .returned (.tuple #[]) ∧ w' = w.setCell ⟨b, 0, none⟩ (.pointer (some ⟨b, 0, none⟩)) := by
  obtain ⟨j, hj, hjs⟩ := Option.map_eq_some_iff.1 infoBld
  go_enter Tryd.func81, Tryd.ntmps81
  go_wp2
  rw [Lib.run_to_unsafe w ⟨b, 0, none⟩ Tryd.underlying116 Tryd.underlying130 hj (by rw [hjs]; decide) hsh (Nat.zero_lt_succ 1)]
  simp only [Result.andThen]
  rw [Oper.upon_value]
  go_wp2
  rw [run_callFunc_extern Tryd.func84 (by kernel_rfl) (by kernel_rfl) (by kernel_rfl) (e := Extern.AbiNoEscape.same) (by kernel_rfl)]
  rw [Lib.run_noEscape]
  simp only [Result.andThen]
  rw [Oper.upon_value]
  go_wp2
  rw [Lib.run_from_unsafe w ⟨b, 0, none⟩ Tryd.underlying130 Tryd.underlying116 hj hsh liesBld]
  simp only [Result.andThen]
  rw [Oper.upon_value]
  go_wp2
  go_end0
  exact ⟨rfl, rfl⟩
abbrev IsB (B b : Nat) (l : List UInt8) (w : World) : Prop := Lib.IsBuilder 118 5 B b (bytesV l) w
theorem check_any (B b : Nat) (l : List UInt8) (w : World) (h : IsB B b l w) :
    Calls Tryd.prog 81 #[.pointer (some ⟨b, 0, none⟩)] w fun e w' => e = .returned (.tuple #[]) ∧ (Lib.BuilderAt 118 5 B b (.pointer (some ⟨b, 0, none⟩)) (bytesV l) w' ∧ Below B w w') := by
  rcases h with h | h
  · refine (check_fresh b w h.cell0 h.shape h.frozen0).mono ?_
    rintro e w' ⟨rfl, rfl⟩
    exact ⟨rfl, h.used _, (Below.refl B w).setCell (p := ⟨b, 0, none⟩) h.1 _⟩
  · refine (check_used b w h.cell0).mono ?_
    rintro e w' ⟨rfl, rfl⟩
    exact ⟨rfl, h, Below.refl B _⟩

set_option maxHeartbeats 2000000 in
set_option maxRecDepth 100000 in
theorem writeByte_any (B b : Nat) (l : List UInt8) (x : UInt8) (w : World) (h : IsB B b l w) (hlen : l.length + 1 ≤ 140737488355328) (hBw : B ≤ w.heap.size) :
    Calls Tryd.prog 73 #[.pointer (some ⟨b, 0, none⟩), .int .u8 (x.toNat : Int)] w fun e w' => e = .returned .nilIface ∧ IsB B b (l ++ [x]) w' ∧ Below B w w' := by
  obtain ⟨i0, hi, hz0, hz1, hz2⟩ := info_parts infB
  have HC := hid (check_any B b l w h)
  clear h
  go_enter Tryd.func73, Tryd.ntmps73
  go_wp2_with fail
  refine HC.out.mono ?_
  rintro e w1 ⟨rfl, h1, hb1⟩
  obtain ⟨hB, v, hbk, hown, hne⟩ := h1
  have c0 : w1.cell? ⟨b, 0, none⟩ = some (.pointer (some ⟨b, 0, none⟩)) := by rw [Lib.cell_of_heap hbk]; rfl
  have c1 : w1.cell? ⟨b, 1, none⟩ = some v := by rw [Lib.cell_of_heap hbk]; rfl
  go_wp2_with (at_builtin; refine wpList_append_own _ rfl _ _ 23 rfl B 5 i0 (.int .u8 0) 1 1 Tryd.underlying23 hi hz0 hz1 hz2 rfl (by decide) _ _ _ rfl (hown.alloc _) ⟨w1.heap.size, 0, none⟩ 1 1 [.int .u8 (x.toNat : Int)] rfl rfl ?c1 ?c2 ?c3 ?c4 ?c5 ?_)
  case c1 =>
    intro j u hj
    match j, hj with
    | 0, hj => simp at hj; subst hj; simp [Addr.add]
  case c2 => intro u hu; simp at hu; subst hu; rfl
  case c3 => unfold maxLen; rw [bytesV_length]; omega
  case c4 => rw [bytesV_length]; omega
  case c5 => have := hb1.size; simp; omega
  intro v' w2 hown' hgrow _
  have hlt : b < w1.heap.size := lt_of_block hbk
  have hb2 : w2.heap[b]? = some (.cells #[.pointer (some ⟨b, 0, none⟩), v] 118 (0, 0)) := by
    rw [hgrow.block b (by simp; omega) (fun e => hne e.symm), Lib.alloc_old w1 _ b hlt]
    exact hbk
  have d0 : w2.cell? ⟨b, 0, none⟩ = some (.pointer (some ⟨b, 0, none⟩)) := by rw [Lib.cell_of_heap hb2]; rfl
  have d1 : w2.cell? ⟨b, 1, none⟩ = some v := by rw [Lib.cell_of_heap hb2]; rfl
  have f1 : w2.frozen? ⟨b, 1, none⟩ = false := Lib.frozen_of_heap hb2 1
  obtain ⟨g, cap, rfl⟩ : ∃ g cap, v' = .slice (some ⟨g, 0, none⟩) (l.length + 1) cap := by
    rcases hown'.2 with ⟨_, h0⟩ | ⟨g, cap, cur, hv, _⟩
    · omega
    · rw [bytesV_length] at hv; exact ⟨g, cap, hv⟩
  go_wp2
  go_ret
  refine ⟨rfl, .inr ?_, ?_⟩
  · refine Lib.BuilderAt.put (T := 118) (e := 5) hB hb2 (bs' := bytesV (l ++ [x])) ?_ (by decide)
    rw [bytesV_append]
    simpa [bytesV] using hown'
  · exact ((hb1.alloc (by have := hb1.size; omega) _).grown hgrow (by have := hb1.size; simp; omega) (fun k hk => (hown.lt k hk).1)).setCell (p := ⟨b, 1, none⟩) hB _

set_option maxHeartbeats 1000000 in
set_option maxRecDepth 100000 in
theorem string_some (B b : Nat) (l : List UInt8) (w : World) (h : IsB B b l w) (h0 : l ≠ []) :
    Calls Tryd.prog 74 #[.pointer (some ⟨b, 0, none⟩)] w fun e w' => e = .returned (.string ⟨l.toArray⟩) ∧ Below B w w' := by
  obtain ⟨p, hB, v, hbk, hown, hne⟩ : ∃ p, Lib.BuilderAt 118 5 B b p (bytesV l) w := by
    rcases h with h | h
    · exact ⟨_, h⟩
    · exact ⟨_, h⟩
  have hl0 : l.length ≠ 0 := by simpa using h0
  rw [bytesV_length] at hown
  obtain ⟨g, cap, cur, rfl, hbg, hg, hnc, hcm, hcs, htake⟩ : ∃ g cap cur, v = .slice (some ⟨g, 0, none⟩) l.length cap ∧ B ≤ g ∧ w.heap[g]? = some (.cells cur 5 (0, 0)) ∧ l.length ≤ cap ∧ cap ≤ maxLen ∧ cur.size = cap * 1 ∧ cur.toList.take (l.length * 1) = bytesV l := by
    rcases hown.2 with ⟨_, hz⟩ | ⟨g, cap, cur, hv, r⟩
    · exact absurd hz hl0
    · exact ⟨g, cap, cur, hv, r⟩
  have c1 : w.drew.cell? ⟨b, 1, none⟩ = some (.slice (some ⟨g, 0, none⟩) l.length cap) := by
    have : w.drew.heap[b]? = some (.cells #[p, .slice (some ⟨g, 0, none⟩) l.length cap] 118 (0, 0)) := hbk
    rw [Lib.cell_of_heap this]; rfl
  have hSD : (Builtin.unsafeSliceData_ #[23] 129 #[.slice (some ⟨g, 0, none⟩) l.length cap]).run Tryd.prog w.drew = .ok (.pointer (some ⟨g, 0, none⟩)) w.drew :=
    Lib.run_unsafeSliceData_row _ _ _ _ _ _ (by omega)
  have hUS : (Builtin.unsafeString_ #[129, 3] 9 #[.pointer (some ⟨g, 0, none⟩), .int .i64 l.length]).run Tryd.prog w.drew = .ok (.string ⟨l.toArray⟩) (w.drew.freeze ⟨g, 0, none⟩ l.length) := by
    refine Lib.run_unsafeString_row w.drew 129 3 9 5 Tryd.underlying129 (by kernel_rfl) g cur.size (by have hg' : w.drew.heap[g]? = some (.cells cur 5 (0, 0)) := hg; simp [World.shape?, hg']) l h0 (by omega) (by unfold maxLen at hcm; omega) ?_
    intro j x hx
    have := hown.cells (g := g) rfl j (.int .u8 x.toNat) (by simp [bytesV, hx])
    exact this
  clear h hown htake hbk hne h0
  go_enter Tryd.func74, Tryd.ntmps74
  go_wp2
  go_region
  all_goals (go_wp2; go_ret; exact ⟨rfl, Lib.below_freeze (Below.drew (Below.refl B w)) (p := ⟨g, 0, none⟩) hbg _⟩)

set_option maxHeartbeats 2000000 in
set_option maxRecDepth 100000 in
theorem string_new (B b : Nat) (p : Value) (w : World) (hbk : w.heap[b]? = some (.cells #[p, .slice none 0 0] 118 (0, 0))) :
    Calls Tryd.prog 74 #[.pointer (some ⟨b, 0, none⟩)] w fun e w' => e = .returned (.string ⟨#[]⟩) ∧ Below B w w' := by
  have hUS : (Builtin.unsafeString_ #[129, 3] 9 #[.pointer none, .int .i64 0]).run Tryd.prog w.drew = .ok (.string .empty) w.drew := Lib.run_unsafeString_none w.drew _ _ _ none
  have c1 : w.drew.cell? ⟨b, 1, none⟩ = some (.slice none 0 0) := by
    have : w.drew.heap[b]? = some (.cells #[p, .slice none 0 0] 118 (0, 0)) := hbk
    rw [Lib.cell_of_heap this]; rfl
  have hSD : (Builtin.unsafeSliceData_ #[23] 129 #[.slice none 0 0]).run Tryd.prog w.drew = .ok (.pointer none) w.drew := rfl
  clear hbk
  go_enter Tryd.func74, Tryd.ntmps74
  go_wp2
  go_region
  all_goals (go_wp2; go_ret; exact ⟨rfl, Below.drew (Below.refl B w)⟩)
end Go.Proofs.YtmbgfjcmdolggaaDoor

/- The walks of the references' Join and Bytes. -/
namespace Go.Proofs.YtmbgfjcmdolggaaDoor
open Go.RowKit PrintLast

theorem infU8 : (Tryd.prog.info? 5).map (fun i => (i.zero, i.size, i.bytes)) = some (some (.int .u8 0), 1, 1) := by kernel_rfl

/-- What a call that makes bytes leaves. -/
def Made (w w' : World) (v : Value) (l : List UInt8) : Prop :=
  w'.ownsRow 0 5 1 v l.length (bytesV l) ∧ (∀ k, v.ownBlock = some k → w.heap.size ≤ k) ∧ Below w.heap.size w w'

set_option maxHeartbeats 400000 in
theorem join_any {w : World} {A B : Option Addr} {c d : Nat} {x y : List UInt8} (hx : BSA w A c x) (hy : BSA w B d y) (hbig : x.length + y.length ≤ 140737488355328) :
    Calls Tryd.prog 22 #[.slice A x.length c, .slice B y.length d] w fun e w' => ∃ A' c', e = .returned (.slice A' (x.length + y.length) c') ∧ Made w w' (.slice A' (x.length + y.length) c') (x ++ y) := by
  go_enter Tryd.func22, Tryd.ntmps22
  go_wp2_with (at_builtin; refine wpList_app8 23 5 Tryd.underlying23 infU8 rfl (.tmp 6) (.tmp 7) rfl _ [] rfl (World.ownsRow_nil _ _ _ _) A c x rfl hx (by simp; omega) ?_)
  intro A1 c1 w1 h1 h2 h3 h4
  try simp only [List.length_nil, Nat.zero_add, List.nil_append] at h1 h3 ⊢
  have hb1 : Below w.heap.size w w1 := (Below.refl _ _).grown h2 (Nat.le_refl _) (fun k hk => by simp [Value.ownBlock] at hk)
  have hy1 := hy.below hb1
  clear h4
  go_wp2_with (at_builtin; refine wpList_app8 23 5 Tryd.underlying23 infU8 rfl (.tmp 9) (.tmp 10) rfl _ x rfl h1 B d y rfl hy1 hbig ?_)
  intro A2 c2 w2 k1 k2 k3 k4
  clear k4
  have hfr : ∀ k, (Value.slice A1 x.length c1).ownBlock = some k → w.heap.size ≤ k := fun k hk => by
    rcases h3 with h3 | h3
    · rw [h3] at hk; simp [Value.ownBlock] at hk
    · rw [h3] at hk; simp at hk; omega
  go_wp2
  go_ret
  refine ⟨A2, c2, rfl, by simpa using k1, fun k hk => ?_, hb1.grown k2 hb1.size hfr⟩
  rcases k3 with k3 | k3
  · rw [k3] at hk; exact hfr k hk
  · rw [k3] at hk; simp at hk; have := hb1.size; omega

theorem take_succ_eq {α : Type} [DecidableEq α] {x y : List α} {k : Nat} (hx : k < x.length) (hy : k < y.length) (h : x.take k = y.take k) (he : x[k] = y[k]) : x.take (k + 1) = y.take (k + 1) := by
  rw [List.take_succ_eq_append_getElem hx, List.take_succ_eq_append_getElem hy, h, he]

set_option maxHeartbeats 800000 in
theorem bytes_any {w : World} {A B : Option Addr} {c d : Nat} {x y : List UInt8} (hx : BSA w A c x) (hy : BSA w B d y) :
    Calls Tryd.prog 19 #[.slice A x.length c, .slice B y.length d] w fun e w' => e = .returned (.bool (decide (x = y))) ∧ Below w.heap.size w w' := by
  have hl := hx.le
  have hl' := hy.le
  by_cases hlen : x.length = y.length
  · have ht : ((x.length : Int) != y.length) = false := by simp [hlen]
    go_enter Tryd.func19, Tryd.ntmps19
    go_wp2
    go_loopw [5] (fun i wr => ∃ k : Nat, k ≤ x.length ∧ i = .int .i64 k ∧ x.take k = y.take k ∧ Below w.heap.size w wr) (fun i _ => x.length - (intOf i).toNat)
    case atStart => exact ⟨0, Nat.zero_le _, rfl, rfl, Below.refl _ _⟩
    case round =>
      obtain ⟨k, hk, rfl, htk, hb⟩ := hrel
      by_cases hlt : k < x.length
      · obtain ⟨ad, rfl, ca⟩ := (hx.below hb).cell k hlt
        obtain ⟨bd, rfl, cb⟩ := (hy.below hb).cell k (by omega)
        by_cases he : x[k] = y[k]
        · have hne : ((x[k].toNat : Int) != (y[k].toNat : Int)) = false := by simp [he]
          have H := hid (take_succ_eq hlt (by omega) htk he)
          clear he htk
          go_wp2
          refine start_ (n := 9) (S := fun w' => w'.cell? (ad.add k) = some (.int .u8 (x[k].toNat : Int)) ∧ w'.cell? (bd.add k) = some (.int .u8 (y[k].toNat : Int))) (ds := []) #[false, false, false, false, false, false, false, false, false] (by kernel_rfl) rfl rfl ⟨ca, cb⟩ (fun hHeld => ?_)
          refine pure_ (i := 0) (N := some 17) (v := ?_) (a' := ?_) #[true, false, false, false, false, false, false, false, false] rfl rfl (by kernel_rfl) (fun _ _ _ h => h) (Or.inl ⟨by rfl, ?_⟩) ?_ ?_
          rotate_left
          · intro w'
            go_simp
            with_reducible rfl
          rotate_left
          · simp only [Act.put, List.setIfInBounds_toArray, List.set_cons_zero, List.set_cons_succ, i64_w, i32_w]
            rfl
          refine pure_ (i := 1) (N := some 18) (v := ?_) (a' := ?_) #[true, true, false, false, false, false, false, false, false] rfl rfl (by kernel_rfl) (fun _ _ _ h => h) (Or.inl ⟨by rfl, ?_⟩) ?_ ?_
          rotate_left
          · intro w'
            go_simp
            with_reducible rfl
          rotate_left
          · simp only [Act.put, List.setIfInBounds_toArray, List.set_cons_zero, List.set_cons_succ, i64_w, i32_w]
            rfl
          refine pure_ (i := 2) (N := some 19) (v := ?_) (a' := ?_) #[true, true, true, false, false, false, false, false, false] rfl rfl (by kernel_rfl) (fun _ _ _ h => h) (Or.inl ⟨by rfl, ?_⟩) ?_ ?_
          rotate_left
          · intro w'
            go_simp
            with_reducible rfl
          rotate_left
          · simp only [Act.put, List.setIfInBounds_toArray, List.set_cons_zero, List.set_cons_succ, i64_w, i32_w]
            rfl
          refine pure_ (i := 4) (N := some 21) (v := ?_) (a' := ?_) #[true, true, true, false, true, false, false, false, false] rfl rfl (by kernel_rfl) (fun _ _ _ h => h) (Or.inl ⟨by rfl, ?_⟩) ?_ ?_
          rotate_left
          · intro w'
            go_simp
            with_reducible rfl
          rotate_left
          · simp only [Act.put, List.setIfInBounds_toArray, List.set_cons_zero, List.set_cons_succ, i64_w, i32_w]
            rfl
          refine pure_ (i := 5) (N := some 22) (v := ?_) (a' := ?_) #[true, true, true, false, true, true, false, false, false] rfl rfl (by kernel_rfl) (fun _ _ _ h => h) (Or.inl ⟨by rfl, ?_⟩) ?_ ?_
          rotate_left
          · intro w'
            go_simp
            with_reducible rfl
          rotate_left
          · simp only [Act.put, List.setIfInBounds_toArray, List.set_cons_zero, List.set_cons_succ, i64_w, i32_w]
            rfl
          refine pure_ (i := 6) (N := some 23) (v := ?_) (a' := ?_) #[true, true, true, false, true, true, true, false, false] rfl rfl (by kernel_rfl) (fun _ _ _ h => h) (Or.inl ⟨by rfl, ?_⟩) ?_ ?_
          rotate_left
          · intro w'
            go_simp
            with_reducible rfl
          rotate_left
          · simp only [Act.put, List.setIfInBounds_toArray, List.set_cons_zero, List.set_cons_succ, i64_w, i32_w]
            rfl
          refine take_ (i := 3) (N := some 20) (v := ?_) (a' := ?_) #[true, true, true, true, true, true, true, false, false] rfl rfl (by kernel_rfl) (fun _ _ _ h => h) (Or.inl ⟨by rfl, ?_⟩) hHeld ?_ ?_
          rotate_left
          · rintro w' ⟨s0, s1⟩
            go_simp
            with_reducible rfl
          rotate_left
          · simp only [Act.put, List.setIfInBounds_toArray, List.set_cons_zero, List.set_cons_succ, i64_w, i32_w]
            rfl
          refine take_ (i := 7) (N := some 24) (v := ?_) (a' := ?_) #[true, true, true, true, true, true, true, true, false] rfl rfl (by kernel_rfl) (fun _ _ _ h => h) (Or.inl ⟨by rfl, ?_⟩) hHeld ?_ ?_
          rotate_left
          · rintro w' ⟨s0, s1⟩
            go_simp
            with_reducible rfl
          rotate_left
          · simp only [Act.put, List.setIfInBounds_toArray, List.set_cons_zero, List.set_cons_succ, i64_w, i32_w]
            rfl
          refine pure_ (i := 8) (N := some 25) (v := ?_) (a' := ?_) #[true, true, true, true, true, true, true, true, true] rfl rfl (by kernel_rfl) (fun _ _ _ h => h) (Or.inl ⟨by rfl, ?_⟩) ?_ ?_
          rotate_left
          · intro w'
            go_simp
            with_reducible rfl
          rotate_left
          · simp only [Act.put, List.setIfInBounds_toArray, List.set_cons_zero, List.set_cons_succ, i64_w, i32_w]
            rfl
          refine done_ (by kernel_rfl) ?_
          go_wp2
          go_roundw
          case rel => exact ⟨k + 1, by omega, by go_num, H.out, hb.drew⟩
          case measure => simp [intOf]; omega
        · have hne : ((x[k].toNat : Int) != (y[k].toNat : Int)) = true := by
            rw [bne_iff_ne]; intro e; exact he (UInt8.toNat_inj.1 (by omega))
          have hxy : decide (x = y) = false := by
            rw [decide_eq_false_iff_not]; intro e; subst e; exact he rfl
          have H := hid hxy
          clear he htk hxy
          go_wp2
          refine start_ (n := 9) (S := fun w' => w'.cell? (ad.add k) = some (.int .u8 (x[k].toNat : Int)) ∧ w'.cell? (bd.add k) = some (.int .u8 (y[k].toNat : Int))) (ds := []) #[false, false, false, false, false, false, false, false, false] (by kernel_rfl) rfl rfl ⟨ca, cb⟩ (fun hHeld => ?_)
          refine pure_ (i := 0) (N := some 17) (v := ?_) (a' := ?_) #[true, false, false, false, false, false, false, false, false] rfl rfl (by kernel_rfl) (fun _ _ _ h => h) (Or.inl ⟨by rfl, ?_⟩) ?_ ?_
          rotate_left
          · intro w'
            go_simp
            with_reducible rfl
          rotate_left
          · simp only [Act.put, List.setIfInBounds_toArray, List.set_cons_zero, List.set_cons_succ, i64_w, i32_w]
            rfl
          refine pure_ (i := 1) (N := some 18) (v := ?_) (a' := ?_) #[true, true, false, false, false, false, false, false, false] rfl rfl (by kernel_rfl) (fun _ _ _ h => h) (Or.inl ⟨by rfl, ?_⟩) ?_ ?_
          rotate_left
          · intro w'
            go_simp
            with_reducible rfl
          rotate_left
          · simp only [Act.put, List.setIfInBounds_toArray, List.set_cons_zero, List.set_cons_succ, i64_w, i32_w]
            rfl
          refine pure_ (i := 2) (N := some 19) (v := ?_) (a' := ?_) #[true, true, true, false, false, false, false, false, false] rfl rfl (by kernel_rfl) (fun _ _ _ h => h) (Or.inl ⟨by rfl, ?_⟩) ?_ ?_
          rotate_left
          · intro w'
            go_simp
            with_reducible rfl
          rotate_left
          · simp only [Act.put, List.setIfInBounds_toArray, List.set_cons_zero, List.set_cons_succ, i64_w, i32_w]
            rfl
          refine pure_ (i := 4) (N := some 21) (v := ?_) (a' := ?_) #[true, true, true, false, true, false, false, false, false] rfl rfl (by kernel_rfl) (fun _ _ _ h => h) (Or.inl ⟨by rfl, ?_⟩) ?_ ?_
          rotate_left
          · intro w'
            go_simp
            with_reducible rfl
          rotate_left
          · simp only [Act.put, List.setIfInBounds_toArray, List.set_cons_zero, List.set_cons_succ, i64_w, i32_w]
            rfl
          refine pure_ (i := 5) (N := some 22) (v := ?_) (a' := ?_) #[true, true, true, false, true, true, false, false, false] rfl rfl (by kernel_rfl) (fun _ _ _ h => h) (Or.inl ⟨by rfl, ?_⟩) ?_ ?_
          rotate_left
          · intro w'
            go_simp
            with_reducible rfl
          rotate_left
          · simp only [Act.put, List.setIfInBounds_toArray, List.set_cons_zero, List.set_cons_succ, i64_w, i32_w]
            rfl
          refine pure_ (i := 6) (N := some 23) (v := ?_) (a' := ?_) #[true, true, true, false, true, true, true, false, false] rfl rfl (by kernel_rfl) (fun _ _ _ h => h) (Or.inl ⟨by rfl, ?_⟩) ?_ ?_
          rotate_left
          · intro w'
            go_simp
            with_reducible rfl
          rotate_left
          · simp only [Act.put, List.setIfInBounds_toArray, List.set_cons_zero, List.set_cons_succ, i64_w, i32_w]
            rfl
          refine take_ (i := 3) (N := some 20) (v := ?_) (a' := ?_) #[true, true, true, true, true, true, true, false, false] rfl rfl (by kernel_rfl) (fun _ _ _ h => h) (Or.inl ⟨by rfl, ?_⟩) hHeld ?_ ?_
          rotate_left
          · rintro w' ⟨s0, s1⟩
            go_simp
            with_reducible rfl
          rotate_left
          · simp only [Act.put, List.setIfInBounds_toArray, List.set_cons_zero, List.set_cons_succ, i64_w, i32_w]
            rfl
          refine take_ (i := 7) (N := some 24) (v := ?_) (a' := ?_) #[true, true, true, true, true, true, true, true, false] rfl rfl (by kernel_rfl) (fun _ _ _ h => h) (Or.inl ⟨by rfl, ?_⟩) hHeld ?_ ?_
          rotate_left
          · rintro w' ⟨s0, s1⟩
            go_simp
            with_reducible rfl
          rotate_left
          · simp only [Act.put, List.setIfInBounds_toArray, List.set_cons_zero, List.set_cons_succ, i64_w, i32_w]
            rfl
          refine pure_ (i := 8) (N := some 25) (v := ?_) (a' := ?_) #[true, true, true, true, true, true, true, true, true] rfl rfl (by kernel_rfl) (fun _ _ _ h => h) (Or.inl ⟨by rfl, ?_⟩) ?_ ?_
          rotate_left
          · intro w'
            go_simp
            with_reducible rfl
          rotate_left
          · simp only [Act.put, List.setIfInBounds_toArray, List.set_cons_zero, List.set_cons_succ, i64_w, i32_w]
            rfl
          refine done_ (by kernel_rfl) ?_
          go_wp2
          go_ret
          exact ⟨by rw [H.out]; rfl, hb.drew⟩
      · have hkx : k = x.length := by omega
        have hxy : decide (x = y) = true := by
          rw [decide_eq_true_iff]
          have h1 : x.take k = x := List.take_of_length_le (by omega)
          have h2 : y.take k = y := List.take_of_length_le (by omega)
          rw [h1, h2] at htk; exact htk
        have H := hid hxy
        clear htk hxy hkx
        go_wp2
        go_ret
        exact ⟨by rw [H.out]; rfl, hb⟩
  · have ht : ((x.length : Int) != y.length) = true := by rw [bne_iff_ne]; omega
    have hxy : decide (x = y) = false := by
      rw [decide_eq_false_iff_not]; intro e; exact hlen (by rw [e])
    have H := hid hxy
    clear hxy
    go_enter Tryd.func19, Tryd.ntmps19
    go_wp2
    go_ret
    exact ⟨by rw [H.out]; rfl, Below.refl _ _⟩
end Go.Proofs.YtmbgfjcmdolggaaDoor

/- The walks of the references' Num and Read. -/
namespace Go.Proofs.YtmbgfjcmdolggaaDoor
open Go.RowKit PrintLast

/-- A slice of the call's own (from B on) that holds the bytes l. -/
def Row (w : World) (B : Nat) (A : Option Addr) (c : Nat) (l : List UInt8) : Prop := w.ownsRow B 5 1 (.slice A l.length c) l.length (bytesV l)
theorem Row.nil (w : World) (B : Nat) : Row w B none 0 [] := World.ownsRow_nil _ _ _ _
theorem Row.bsa {w : World} {B c : Nat} {A : Option Addr} {l : List UInt8} (h : Row w B A c l) : BSA w A c l := (own_bsa h).2.2
theorem Row.below {w w' : World} {B c : Nat} {A : Option Addr} {l : List UInt8} (h : Row w B A c l) (hb : Below w.heap.size w w') : Row w' B A c l := below_own hb h
theorem Row.lower {w : World} {B B' c : Nat} {A : Option Addr} {l : List UInt8} (h : Row w B A c l) (hB : B' ≤ B) : Row w B' A c l := by
  refine ⟨h.1, ?_⟩
  rcases h.2 with k | ⟨g, cap, cur, e, hb, r⟩
  · exact .inl k
  · exact .inr ⟨g, cap, cur, e, Nat.le_trans hB hb, r⟩
theorem Made.row {w w' : World} {A : Option Addr} {c n : Nat} {l : List UInt8} (h : Made w w' (.slice A n c) l) (hn : n = l.length) : Row w' w.heap.size A c l := by
  subst hn
  obtain ⟨h1, h2, h3⟩ := h
  refine ⟨h1.1, ?_⟩
  rcases h1.2 with k | ⟨g, cap, cur, e, hb, r⟩
  · exact .inl k
  · exact .inr ⟨g, cap, cur, e, h2 g (by rw [e]; rfl), r⟩

theorem infU8' : (Tryd.prog.info? 5).map (fun i => (i.zero, i.size, i.bytes)) = some (some (.int .u8 0), 1, 1) := by kernel_rfl
/-- 'append' onto such a slice, of bytes that lie somewhere. -/
theorem wpList_appR {w : World} {ops : Array Oper} {rest : List Oper} {o : Oper} {a : Act} {Q : Exit → Act → World → Prop} (hgd : o.guard = none) (s x : Operand)
    (ho : o.op = .call { callee := .builtin .append, args := #[s, x], argTypes := #[23, 23] }) (B : Nat) (hB : B ≤ w.heap.size)
    (R : Option Addr) (c : Nat) (l : List UInt8) (hs : a.eval s = .slice R l.length c) (hR : Row w B R c l) (ad : Addr) (c2 : Nat) (q : List UInt8) (hx : a.eval x = .slice (some ad) q.length c2) (hb : BSA w (some ad) c2 q)
    (h47 : l.length + q.length ≤ 140737488355328) (n : Nat) (hn : l.length + q.length = n)
    (h : ∀ R' c' w', Row w' B R' c' (l ++ q) → Below B w w' → Keeps (fun k => ∃ ad, R = some ad ∧ ad.block = k) w w' → (R' = none → q = []) → wpList Tryd.prog ops Q rest (a.put o.dst (.slice R' n c')) w') : wpList Tryd.prog ops Q (o :: rest) a w := by
  subst hn
  obtain ⟨i0, hi, hz0, hz1, hz2⟩ := info_parts infU8'
  obtain ⟨n1, n2, n3⟩ := bsa_news hb
  refine wpList_append_own w hgd s x 23 ho B 5 i0 (.int .u8 0) 1 1 Tryd.underlying23 hi hz0 hz1 hz2 rfl (by decide) _ l.length (bytesV l) hs hR ad q.length c2 (bytesV q) hx n1 (n3 ad rfl) (bytesV_one _) (by unfold maxLen; omega) (by omega) hB ?_
  intro v' w' k1 k2 k3
  have hform : ∃ A' c', v' = .slice A' (l.length + q.length) c' := by
    rcases k1.2 with ⟨e, h0⟩ | ⟨g', cap', cur', e', _⟩
    · rw [e, h0]; exact ⟨_, _, rfl⟩
    · exact ⟨_, _, e'⟩
  obtain ⟨A', c', rfl⟩ := hform
  refine h A' c' w' (by unfold Row; rw [bytesV_append, List.length_append]; exact k1) ((Below.refl B w).grown k2 hB (fun k hk => (hR.lt k hk).1)) ((Keeps.refl _ w).grown k2 (fun k hk _ => by
    cases R with
    | none => cases hk
    | some ad => simp only [Value.ownBlock, Option.some.injEq] at hk; exact ⟨ad, rfl, hk⟩)) (fun e => ?_)
  subst e
  rcases k1.2 with ⟨e, h0⟩ | ⟨g', cap', cur', e', _⟩
  · exact List.eq_nil_of_length_eq_zero (by omega)
  · cases e'

/-- So many bytes of a number, the highest first. -/
def numBytes (n m : Nat) : List UInt8 := (List.range m).map fun j => UInt8.ofNat (n / 2 ^ (8 * (m - 1 - j)))
theorem numBytes_length (n m : Nat) : (numBytes n m).length = m := by simp [numBytes]
theorem numBytes_next (n m k : Nat) (h : k < m) : (numBytes n m).take (k + 1) = (numBytes n m).take k ++ [UInt8.ofNat (n / 2 ^ (8 * (m - 1 - k)))] := by
  rw [List.take_succ_eq_append_getElem (by rw [numBytes_length]; exact h)]
  congr 2
  simp only [numBytes, List.getElem_map, List.getElem_range]
theorem byte_div (n m : Nat) : ((n : Int) / 2 ^ m) % 256 = ((UInt8.ofNat (n / 2 ^ m)).toNat : Int) := by
  rw [UInt8.toNat_ofNat']
  simp
theorem lit_bsa (w : World) (x : UInt8) : BSA (w.alloc (.cells #[.int .u8 (x.toNat : Int)] 5)) (some ⟨w.heap.size, 0, none⟩) 1 [x] := by
  refine ⟨by simp, by unfold maxLen; omega, (fun e => by cases e), fun ad e j hj => ?_⟩
  cases e
  have hj0 : j = 0 := by simp at hj; omega
  subst hj0
  rw [add_plain]
  exact cell_at (heap_alloc_new w _) rfl

set_option maxHeartbeats 800000 in
theorem num_any {w : World} {n m : Nat} (hm : m ≤ 8) :
    Calls Tryd.prog 43 #[.int .u64 (n : Int), .int .i64 (m : Int)] w fun e w' => ∃ A c, e = .returned (.slice A m c) ∧ Row w' w.heap.size A c (numBytes n m) ∧ (0 < m → A ≠ none) ∧ Below w.heap.size w w' := by
  go_enter Tryd.func43, Tryd.ntmps43
  go_wp2
  go_loopw [5, 6] (fun v i wr => ∃ (k : Nat) (A : Option Addr) (c : Nat), k ≤ m ∧ i = .int .i64 k ∧ v = .slice A k c ∧ Row wr w.heap.size A c ((numBytes n m).take k) ∧ (0 < k → A ≠ none) ∧ Below w.heap.size w wr) (fun _ i _ => m - (intOf i).toNat)
  case atStart => exact ⟨0, none, 0, Nat.zero_le _, rfl, rfl, Row.nil _ _, by omega, Below.refl _ _⟩
  case round =>
    obtain ⟨k, A, c, hk, rfl, rfl, hR, hA, hb⟩ := hrel
    by_cases hlt : k < m
    · have tk : decide ((k : Int) < (m : Int)) = true := by simp; omega
      obtain ⟨sh, hsh⟩ : ∃ s, s = 8 * (m - 1 - k) := ⟨_, rfl⟩
      have hs64 : sh < 64 := by omega
      have e1 : 8 * ((m : Int) - 1 - (k : Int)) = (sh : Int) := by omega
      have w1 : wrap64 ((m : Int) - 1) = (m : Int) - 1 := by unfold wrap64; omega
      have w2 : wrap64 ((m : Int) - 1 - (k : Int)) = (m : Int) - 1 - (k : Int) := by unfold wrap64; omega
      have w3 : wrap64 (sh : Int) = (sh : Int) := by unfold wrap64; omega
      have HN := numBytes_next n m k hlt
      rw [← hsh] at HN
      have Bf := byte_div n sh
      obtain ⟨x, hx⟩ : ∃ x, x = UInt8.ofNat (n / 2 ^ sh) := ⟨_, rfl⟩
      rw [← hx] at HN Bf
      have HN' := hid HN
      have hl : ((numBytes n m).take k).length = k := by rw [List.length_take, numBytes_length]; omega
      have sB := hb.size
      have hRa := hR.below (below_alloc (Below.refl _ wr) (.cells #[.int .u8 (x.toNat : Int)] 5))
      have hba := hb.alloc sB (.cells #[.int .u8 (x.toNat : Int)] 5)
      clear HN hx hsh
      go_wp2_with (refine wpList_appR rfl (.tmp 12) (.tmp 21) rfl w.heap.size (Nat.le_trans sB (below_alloc (Below.refl _ wr) (.cells #[.int .u8 (x.toNat : Int)] 5)).size) A c ((numBytes n m).take k) (by rw [hl]; rfl) hRa _ 1 [x] rfl (lit_bsa wr x) (by rw [hl]; simp; omega) (k + 1) (by rw [hl]; rfl) ?_)
      intro R' c' w' h1 h2 _ h3
      rw [← HN'.out] at h1
      go_wp2
      exact ⟨⟨k + 1, R', c', by omega, by go_num, rfl, h1, (fun _ e => by have := h3 e; simp at this), hba.trans h2⟩, by simp [intOf]; omega⟩
    · obtain rfl : k = m := by omega
      have tk : decide ((k : Int) < (k : Int)) = false := by simp
      rw [List.take_of_length_le (by rw [numBytes_length]; exact Nat.le_refl _)] at hR
      go_wp2
      go_ret
      exact ⟨A, c, rfl, hR, hA, hb⟩

/-- The number that bytes spell, the highest first. -/
def readNat (l : List UInt8) : Nat := l.foldl (fun n b => 256 * n + b.toNat) 0
theorem readNat_append (l : List UInt8) (b : UInt8) : readNat (l ++ [b]) = 256 * readNat l + b.toNat := by simp [readNat]
theorem readNat_lt : ∀ (n : Nat) (l : List UInt8), l.length = n → readNat l < 256 ^ n
  | 0, l, h => by
    obtain rfl := List.eq_nil_of_length_eq_zero h
    simp [readNat]
  | n + 1, l, h => by
    obtain ⟨m, b, rfl⟩ : ∃ m b, l = m ++ [b] := ⟨l.dropLast, l.getLast (by intro e; simp [e] at h), (List.dropLast_concat_getLast _).symm⟩
    have := readNat_lt n m (by simpa using h)
    have := b.toNat_lt
    rw [readNat_append, Nat.pow_succ]
    omega

set_option maxHeartbeats 800000 in
theorem readN_any {w : World} {A : Option Addr} {c : Nat} {l : List UInt8} (h : BSA w A c l) (hl : l.length ≤ 8) :
    Calls Tryd.prog 38 #[.slice A l.length c] w fun e w' => e = .returned (.int .u64 (readNat l : Int)) ∧ w = w' := by
  go_enter Tryd.func38, Tryd.ntmps38
  go_wp2
  go_loopw [3, 4] (fun v i wr => ∃ k : Nat, k ≤ l.length ∧ i = .int .i64 k ∧ v = .int .u64 (readNat (l.take k) : Int) ∧ w = wr) (fun _ i _ => l.length - (intOf i).toNat)
  case atStart => exact ⟨0, Nat.zero_le _, rfl, rfl, rfl⟩
  case round =>
    obtain ⟨k, hk, rfl, rfl, rfl⟩ := hrel
    by_cases hlt : k < l.length
    · have tk : decide ((k : Int) < (l.length : Int)) = true := by simp; omega
      obtain ⟨ad, rfl, cx⟩ := h.cell k hlt
      have e1 : readNat (l.take (k + 1)) = 256 * readNat (l.take k) + l[k].toNat := by rw [List.take_succ_eq_append_getElem hlt, readNat_append]
      have b1 := readNat_lt k (l.take k) (by simp; omega)
      have b2 : 256 ^ k ≤ 256 ^ 7 := Nat.pow_le_pow_right (by omega) (by omega)
      have b3 := l[k].toNat_lt
      obtain ⟨r, hr⟩ : ∃ r, r = readNat (l.take k) := ⟨_, rfl⟩
      obtain ⟨x, hx⟩ : ∃ x, x = l[k] := ⟨_, rfl⟩
      rw [← hr] at e1 b1 ⊢
      rw [← hx] at e1 b3 cx
      have q1 : (256 * (r : Int)) % 18446744073709551616 = 256 * (r : Int) := by omega
      have q2 : (256 * (r : Int) + (x.toNat : Int)) % 18446744073709551616 = 256 * (r : Int) + (x.toNat : Int) := by omega
      have E1 := hid e1
      have q3 : (x.toNat : Int) % 18446744073709551616 = (x.toNat : Int) := by omega
      clear hr hx e1 b1 b2
      go_wp2
      exact ⟨⟨k + 1, hlt, by go_num, by rw [E1.out]; simp, trivial⟩, by simp [intOf]; omega⟩
    · have tk : decide ((k : Int) < (l.length : Int)) = false := by simp; omega
      rw [List.take_of_length_le (by omega)]
      go_wp2
      go_ret
      exact ⟨rfl, rfl⟩
end Go.Proofs.YtmbgfjcmdolggaaDoor

/- The walk of sha.Hex. -/
namespace Go.Proofs.YtmbgfjcmdolggaaDoor
open Go.RowKit PrintLast

def digitsL : List UInt8 := [48, 49, 50, 51, 52, 53, 54, 55, 56, 57, 97, 98, 99, 100, 101, 102]
def hexOf (l : List UInt8) : List UInt8 := l.flatMap fun b => [digitsL.getD (b.toNat / 16) 0, digitsL.getD (b.toNat % 16) 0]
theorem hexOf_next (l : List UInt8) (k : Nat) (hk : k < l.length) : hexOf (l.take (k + 1)) = hexOf (l.take k) ++ [digitsL.getD (l[k].toNat / 16) 0] ++ [digitsL.getD (l[k].toNat % 16) 0] := by
  rw [List.take_succ_eq_append_getElem hk]
  unfold hexOf
  rw [List.flatMap_append]
  simp only [List.flatMap_cons, List.flatMap_nil, List.append_nil, List.append_assoc, List.cons_append, List.nil_append]
theorem hexOf_length (l : List UInt8) : (hexOf l).length = 2 * l.length := by
  induction l with
  | nil => rfl
  | cons x l ih =>
    have : hexOf (x :: l) = [digitsL.getD (x.toNat / 16) 0, digitsL.getD (x.toNat % 16) 0] ++ hexOf l := rfl
    rw [this, List.length_append, ih, List.length_cons]
    simp
    omega
theorem index_str {w : World} (s : ByteArray) (k : Nat) (hk : k < s.data.toList.length) : (Instr.index 9 (.string s) (.int .i64 (k : Int))).run Tryd.prog w = .ok (.int .u8 ((s.data.toList[k]).toNat : Int)) w := by
  have hs : k < s.size := by simpa using hk
  rw [run_index_string w 9 s .i64 (k : Int) Tryd.underlying9, dif_pos (by omega)]
  simp
  rfl
theorem index_digit {w : World} : ∀ n : Fin 16, (Instr.index 9 (.string ⟨#[48, 49, 50, 51, 52, 53, 54, 55, 56, 57, 97, 98, 99, 100, 101, 102]⟩) (.int .u8 (n.val : Int))).run Tryd.prog w = .ok (.int .u8 ((digitsL.getD n.val 0).toNat : Int)) w := by
  intro n
  rw [run_index_string w 9 _ .u8 (n.val : Int) Tryd.underlying9, dif_pos ⟨by omega, by have := n.isLt; show (n.val : Int) < 16; omega⟩]
  obtain ⟨m, hm⟩ := n
  have : m = 0 ∨ m = 1 ∨ m = 2 ∨ m = 3 ∨ m = 4 ∨ m = 5 ∨ m = 6 ∨ m = 7 ∨ m = 8 ∨ m = 9 ∨ m = 10 ∨ m = 11 ∨ m = 12 ∨ m = 13 ∨ m = 14 ∨ m = 15 := by omega
  rcases this with rfl | rfl | rfl | rfl | rfl | rfl | rfl | rfl | rfl | rfl | rfl | rfl | rfl | rfl | rfl | rfl <;> rfl
theorem low4 (b : UInt8) : bits .and .u8 (b.toNat : Int) 15 = ((b.toNat % 16 : Nat) : Int) := by
  have h := u8_and_nat b.toNat 15 b.toNat_lt (by omega)
  have e : b.toNat &&& 15 = b.toNat % 16 := Nat.and_two_pow_sub_one_eq_mod b.toNat 4
  rw [e] at h
  exact h

end Go.Proofs.YtmbgfjcmdolggaaDoor

/- The walks of the two Bits. -/
namespace Go.Proofs.YtmbgfjcmdolggaaDoor
open Go.RowKit PrintLast

/-- Bit i of the bytes l, from the highest on. -/
def bitOf (l : List UInt8) (i : Int) : Int := if i < 0 then 0 else if h : i.toNat / 8 < l.length then ((l[i.toNat / 8].toNat / 2 ^ (7 - i.toNat % 8) % 2 : Nat) : Int) else 0
theorem and_one (n : Nat) (h : n < 256) : bits .and .i64 (n : Int) 1 = ((n % 2 : Nat) : Int) := by
  show IntKind.i64.wrap ((BitVec.ofInt 64 (n : Int) &&& BitVec.ofInt 64 ((1 : Nat) : Int)).toNat : Int) = _
  rw [BitVec.toNat_and, ofInt_u64 n (by omega), ofInt_u64 1 (by omega), Nat.and_one_is_mod]
  have : n % 2 = 0 ∨ n % 2 = 1 := by omega
  rcases this with e | e <;> rw [e] <;> rfl

set_option maxRecDepth 100000 in
set_option maxHeartbeats 1600000 in
theorem bit_any {w : World} {s : ByteArray} {i : Int} (hs : s.data.toList.length ≤ 1000000000) (hi : -9223372036854775808 ≤ i ∧ i ≤ 9223372036854775807) :
    Calls Tryd.prog 48 #[.string s, .int .i64 i] w fun e w' => e = .returned (.int .i64 (bitOf s.data.toList i)) ∧ w = w' := by
  obtain ⟨l, hl⟩ : ∃ l, l = s.data.toList := ⟨_, rfl⟩
  have hz : (s.size : Int) = (l.length : Int) := by rw [hl]; simp
  have IS := hid (fun (k : Nat) (hk : k < l.length) (w : World) => show (Instr.index 9 (.string s) (.int .i64 (k : Int))).run Tryd.prog w = .ok (.int .u8 ((l[k]).toNat : Int)) w by subst hl; exact index_str s k hk)
  rw [← hl] at hs ⊢
  clear hl
  by_cases h0 : i < 0
  · have t0 : decide (i < 0) = true := by simp; omega
    have eb : bitOf l i = 0 := by unfold bitOf; rw [if_pos h0]
    rw [eb]
    go_enter Tryd.func48, Tryd.ntmps48
    go_wp2
    go_ret
    exact ⟨rfl, rfl⟩
  · obtain ⟨n, rfl⟩ : ∃ n : Nat, i = (n : Int) := ⟨i.toNat, by omega⟩
    obtain ⟨q, hq⟩ : ∃ q, q = n / 8 := ⟨_, rfl⟩
    have eq : (n : Int).tdiv 8 = (q : Int) := by rw [Int.tdiv_eq_ediv_of_nonneg (by omega)]; omega
    have t0 : decide ((n : Int) < 0) = false := by simp
    by_cases hlt : q < l.length
    · have tq : decide ((l.length : Int) ≤ (q : Int)) = false := by simp; omega
      have iq := IS.out q hlt
      have eb : bitOf l (n : Int) = (((l[q]).toNat / 2 ^ (7 - n % 8) % 2 : Nat) : Int) := by
        unfold bitOf
        rw [if_neg h0]
        simp only [Int.toNat_natCast, ← hq, hlt, dif_pos]
      rw [eb]
      obtain ⟨x, hx⟩ : ∃ x, x = l[q] := ⟨_, rfl⟩
      simp only [← hx] at iq ⊢
      have xl := x.toNat_lt
      obtain ⟨v, hv⟩ : ∃ v, v = x.toNat / 2 ^ (7 - n % 8) := ⟨_, rfl⟩
      have v256 : v < 256 := by rw [hv]; exact Nat.lt_of_le_of_lt (Nat.div_le_self _ _) xl
      have ev : (x.toNat : Int) / 2 ^ (7 - n % 8) = (v : Int) := by rw [hv]; simp
      have ea := and_one
      rw [← hv]
      clear hq hx hv eb h0
      go_enter Tryd.func48, Tryd.ntmps48
      go_wp2
      go_ret
      exact ⟨rfl, rfl⟩
    · have tq : decide ((l.length : Int) ≤ (q : Int)) = true := by simp; omega
      have eb : bitOf l (n : Int) = 0 := by
        unfold bitOf
        rw [if_neg h0]
        simp only [Int.toNat_natCast, ← hq]
        rw [dif_neg hlt]
      rw [eb]
      clear eb
      go_enter Tryd.func48, Tryd.ntmps48
      go_wp2
      go_ret
      exact ⟨rfl, rfl⟩

set_option maxRecDepth 100000 in
set_option maxHeartbeats 1600000 in
theorem rbit_any {w : World} {s : ByteArray} {i : Int} (hs : s.data.toList.length ≤ 1000000000) (hi : -9223372036854775808 ≤ i ∧ i ≤ 9223372036854775807) :
    Calls Tryd.prog 30 #[.string s, .int .i64 i] w fun e w' => e = .returned (.int .i64 (bitOf s.data.toList i)) ∧ w = w' := by
  obtain ⟨l, hl⟩ : ∃ l, l = s.data.toList := ⟨_, rfl⟩
  have hz : (s.size : Int) = (l.length : Int) := by rw [hl]; simp
  have IS := hid (fun (k : Nat) (hk : k < l.length) (w : World) => show (Instr.index 9 (.string s) (.int .i64 (k : Int))).run Tryd.prog w = .ok (.int .u8 ((l[k]).toNat : Int)) w by subst hl; exact index_str s k hk)
  rw [← hl] at hs ⊢
  clear hl
  by_cases h0 : i < 0
  · have t0 : decide (i < 0) = true := by simp; omega
    have eb : bitOf l i = 0 := by unfold bitOf; rw [if_pos h0]
    rw [eb]
    go_enter Tryd.func30, Tryd.ntmps30
    go_wp2
    go_ret
    exact ⟨rfl, rfl⟩
  · obtain ⟨n, rfl⟩ : ∃ n : Nat, i = (n : Int) := ⟨i.toNat, by omega⟩
    obtain ⟨q, hq⟩ : ∃ q, q = n / 8 := ⟨_, rfl⟩
    have eq : (n : Int).tdiv 8 = (q : Int) := by rw [Int.tdiv_eq_ediv_of_nonneg (by omega)]; omega
    have t0 : decide ((n : Int) < 0) = false := by simp
    by_cases hlt : q < l.length
    · have t8 : decide (8 * (l.length : Int) ≤ (n : Int)) = false := by simp; omega
      have iq := IS.out q hlt
      have eb : bitOf l (n : Int) = (((l[q]).toNat / 2 ^ (7 - n % 8) % 2 : Nat) : Int) := by
        unfold bitOf
        rw [if_neg h0]
        simp only [Int.toNat_natCast, ← hq, hlt, dif_pos]
      rw [eb]
      obtain ⟨x, hx⟩ : ∃ x, x = l[q] := ⟨_, rfl⟩
      simp only [← hx] at iq ⊢
      have xl := x.toNat_lt
      obtain ⟨v, hv⟩ : ∃ v, v = x.toNat / 2 ^ (7 - n % 8) := ⟨_, rfl⟩
      have v256 : v < 256 := by rw [hv]; exact Nat.lt_of_le_of_lt (Nat.div_le_self _ _) xl
      have ev : (x.toNat : Int) / 2 ^ (7 - n % 8) = (v : Int) := by rw [hv]; simp
      have ea := fun v : Nat => show (v : Int).tmod 2 = ((v % 2 : Nat) : Int) by rw [Int.tmod_eq_emod_of_nonneg (by omega)]; omega
      rw [← hv]
      clear hq hx hv eb h0
      go_enter Tryd.func30, Tryd.ntmps30
      go_wp2
      go_ret
      exact ⟨rfl, rfl⟩
    · have t8 : decide (8 * (l.length : Int) ≤ (n : Int)) = true := by simp; omega
      have eb : bitOf l (n : Int) = 0 := by
        unfold bitOf
        rw [if_neg h0]
        simp only [Int.toNat_natCast, ← hq]
        rw [dif_neg hlt]
      rw [eb]
      clear eb
      go_enter Tryd.func30, Tryd.ntmps30
      go_wp2
      go_ret
      exact ⟨rfl, rfl⟩
end Go.Proofs.YtmbgfjcmdolggaaDoor
