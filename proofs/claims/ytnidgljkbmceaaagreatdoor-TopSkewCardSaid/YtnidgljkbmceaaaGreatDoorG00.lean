/- Words of this claim's own: what a call keeps ('Keeps'), bytes that are read ('BS'), and one law on append. No condition. -/
import Derived.WalkKit
import Derived.OneCell
import Derived.Laws.AppendOwnNone
import Derived.Deep.AppendLies
import Derived.Laws.OwnMore
import Derived.Deep.Draws
import Derived.Test.YtnidgljkbmceaaaGreatDoorChecked
import Derived.Test.YtnidgljkbmceaaaGreatDoorLast
import Derived.Outline
import Derived.WalkSpells
import Derived.WalkLawsBesides
import Derived.Deep.LoopGhost
import Derived.Laws.BitsAllLaws
set_option linter.unusedVariables false
set_option linter.unusedSimpArgs false
namespace Go.Proofs.YtnidgljkbmceaaaGreatDoor
open Go.RowKit
theorem hid {p : Prop} (h : p) : Hid p := h
structure Keeps (S : Nat → Prop) (w w' : World) : Prop where
  os : w'.os = w.os
  tape : w'.tape = w.tape
  output : w'.output = w.output
  size : w.heap.size ≤ w'.heap.size
  block : ∀ k, k < w.heap.size → ¬ S k → w'.heap[k]? = w.heap[k]?
section
variable {S S' : Nat → Prop} {a w w' : World}
theorem Keeps.refl (S : Nat → Prop) (w : World) : Keeps S w w := ⟨rfl, rfl, rfl, Nat.le_refl _, fun _ _ _ => rfl⟩
theorem Keeps.mono (h : Keeps S w w') (hs : ∀ k, k < w.heap.size → S k → S' k) : Keeps S' w w' :=
  ⟨h.os, h.tape, h.output, h.size, fun k hk hn => h.block k hk (fun e => hn (hs k hk e))⟩
theorem Keeps.then (h : Keeps S a w) (h' : Keeps S' w w') (hs : ∀ k, k < a.heap.size → S' k → S k) : Keeps S a w' :=
  ⟨h'.os.trans h.os, h'.tape.trans h.tape, h'.output.trans h.output, Nat.le_trans h.size h'.size, fun k hk hn =>
    (h'.block k (Nat.lt_of_lt_of_le hk h.size) (fun e => hn (hs k hk e))).trans (h.block k hk hn)⟩
theorem Keeps.below (h : Keeps S a w) (h' : Below w.heap.size w w') : Keeps S a w' :=
  h.then (S' := fun _ => False) ⟨h'.os, h'.tape, h'.output, h'.size, fun k hk _ => h'.block k hk⟩ (fun _ _ e => e.elim)
theorem Keeps.of_below (h : Below w.heap.size w w') : Keeps S w w' := (Keeps.refl S w).below h
theorem Keeps.toBelow (h : Keeps (fun _ => False) w w') : Below w.heap.size w w' := ⟨h.os, h.tape, h.output, h.size, fun k hk => h.block k hk (fun e => e)⟩
theorem Keeps.alloc (h : Keeps S a w) (o : Obj) : Keeps S a (w.alloc o) := h.below ((Below.refl _ _).alloc (Nat.le_refl _) o)
theorem Keeps.drew (h : Keeps S a w) : Keeps S a w.drew := ⟨h.os, h.tape, h.output, h.size, h.block⟩
theorem Keeps.grown (h : Keeps S a w) {row : Option Nat} (hg : w.grownBy w' row) (hr : ∀ k, row = some k → k < a.heap.size → S k) : Keeps S a w' :=
  h.then (S' := fun k => some k = row) ⟨hg.os, hg.tape, hg.output, hg.size, fun k hk hn => hg.block k hk hn⟩ (fun k hk e => hr k e.symm hk)
theorem Keeps.setCell (h : Keeps S a w) {p : Addr} (hp : p.block < a.heap.size → S p.block) (u : Value) : Keeps S a (w.setCell p u) :=
  h.then (S' := fun k => k = p.block) ⟨rfl, rfl, rfl, by simp [World.setCell], fun k _ hn => heap_setCell_other w p k u hn⟩ (fun _ hk e => e ▸ hp (e ▸ hk))
theorem Keeps.cell (h : Keeps S w w') {p : Addr} {v : Value} (hc : w.cell? p = some v) (hn : ¬ S p.block) : w'.cell? p = some v :=
  (World.cell?_of_block (h.block p.block (World.block_lt_of_cell? w p hc) hn)).trans hc
theorem Keeps.heap (h : Keeps S w w') {k : Nat} {o : Obj} (hk : w.heap[k]? = some o) (hn : ¬ S k) : w'.heap[k]? = some o := (h.block k (lt_of_block hk) hn).trans hk
theorem Keeps.own (h : Keeps S w w') {base e size n : Nat} {v : Value} {xs : List Value} (ho : w.ownsRow base e size v n xs) (hn : ∀ k, v.ownBlock = some k → ¬ S k) : w'.ownsRow base e size v n xs := by
  refine ⟨ho.1, ?_⟩
  rcases ho.2 with hl | ⟨g, cap, cur, rfl, hb, hgg, rest⟩
  · exact .inl hl
  · exact .inr ⟨g, cap, cur, rfl, hb, h.heap hgg (hn g rfl), rest⟩
end
theorem below_heap {w w' : World} (h : Below w.heap.size w w') {k : Nat} {o : Obj} (hk : w.heap[k]? = some o) : w'.heap[k]? = some o := (h.block k (lt_of_block hk)).trans hk
theorem below_cell {w w' : World} (h : Below w.heap.size w w') {p : Addr} {v : Value} (hc : w.cell? p = some v) : w'.cell? p = some v := (h.cell (World.block_lt_of_cell? w p hc)).trans hc
theorem below_own {w w' : World} (h : Below w.heap.size w w') {base e size n : Nat} {v : Value} {xs : List Value} (ho : w.ownsRow base e size v n xs) : w'.ownsRow base e size v n xs :=
  (Keeps.of_below (S := fun _ => False) h).own ho (fun _ _ e => e)
theorem below_then {a w w' : World} (h : Below a.heap.size a w) (h' : Below w.heap.size w w') : Below a.heap.size a w' :=
  h.trans (h'.mono h.size)
theorem below_alloc {a w : World} (h : Below a.heap.size a w) (o : Obj) : Below a.heap.size a (w.alloc o) := h.alloc h.size o
theorem heap_set {w : World} {g i : Nat} {cs : Array Value} {t : TypeId} {v : Value} (hg : w.heap[g]? = some (.cells cs t (0, 0))) : (w.setCell ⟨g, i, none⟩ v).heap[g]? = some (.cells (cs.setIfInBounds i v) t (0, 0)) :=
  heap_setCell_same w g i cs t v hg
theorem cell_at {w : World} {g i : Nat} {cs : Array Value} {t : TypeId} {fr : Nat × Nat} {v : Value} (hg : w.heap[g]? = some (.cells cs t fr)) (hv : cs[i]? = some v) : w.cell? ⟨g, i, none⟩ = some v := by rw [cell_of_row w g i cs t fr hg]; exact hv
theorem free_at {w : World} {g : Nat} {cs : Array Value} {t : TypeId} (hg : w.heap[g]? = some (.cells cs t (0, 0))) (i : Nat) : w.frozen? ⟨g, i, none⟩ = false := frozen_of_row w g i cs t hg
def bytesV (l : List UInt8) : List Value := l.map fun c => .int .u8 (c.toNat : Int)
theorem bytesV_length (l : List UInt8) : (bytesV l).length = l.length := by simp [bytesV]
theorem bytesV_append (l m : List UInt8) : bytesV (l ++ m) = bytesV l ++ bytesV m := by simp [bytesV]
theorem bytesV_one (l : List UInt8) : ∀ u ∈ bytesV l, u.oneCell' = true := by
  intro u hu
  obtain ⟨_, _, rfl⟩ := List.mem_map.1 hu
  rfl
theorem bytesV_get (l : List UInt8) (j : Nat) (h : j < l.length) : (bytesV l)[j]? = some (.int .u8 (l[j].toNat : Int)) := by simp [bytesV, h]
theorem bytesV_some {l : List UInt8} {j : Nat} {u : Value} (h : (bytesV l)[j]? = some u) : ∃ hj : j < l.length, u = .int .u8 (l[j].toNat : Int) := by
  have hj : j < l.length := by
    have := (List.getElem?_eq_some_iff.1 h).1
    simpa [bytesV] using this
  rw [bytesV_get l j hj] at h
  exact ⟨hj, (Option.some.inj h).symm⟩
def BSA (w : World) (A : Option Addr) (c : Nat) (l : List UInt8) : Prop :=
  l.length ≤ c ∧ c ≤ maxLen ∧ (A = none → c = 0) ∧ ∀ ad, A = some ad → ∀ j (h : j < l.length), w.cell? (ad.add j) = some (.int .u8 (l[j].toNat : Int))
def BS (w : World) (v : Value) (l : List UInt8) : Prop := ∃ A c, v = .slice A l.length c ∧ BSA w A c l
theorem BSA.cell {w : World} {A : Option Addr} {c : Nat} {l : List UInt8} (h : BSA w A c l) (j : Nat) (hj : j < l.length) : ∃ ad, A = some ad ∧ w.cell? (ad.add j) = some (.int .u8 (l[j].toNat : Int)) := by
  obtain ⟨h1, _, h3, h4⟩ := h
  cases A with
  | none => have := h3 rfl; omega
  | some ad => exact ⟨ad, rfl, h4 ad rfl j hj⟩
theorem BSA.le {w : World} {A : Option Addr} {c : Nat} {l : List UInt8} (h : BSA w A c l) : l.length ≤ 9223372036854775807 := by have := h.1; have := h.2.1; unfold maxLen at *; omega
theorem BSA.moved {w w' : World} {A : Option Addr} {c : Nat} {l : List UInt8} (h : BSA w A c l) (hm : ∀ ad v, w.cell? ad = some v → (∃ a0 j, A = some a0 ∧ ad = a0.add j) → w'.cell? ad = some v) : BSA w' A c l :=
  ⟨h.1, h.2.1, h.2.2.1, fun ad e j hj => hm _ _ (h.2.2.2 ad e j hj) ⟨ad, j, e, rfl⟩⟩
theorem BSA.below {w w' : World} {A : Option Addr} {c : Nat} {l : List UInt8} (h : BSA w A c l) (hb : Below w.heap.size w w') : BSA w' A c l := h.moved fun _ _ hv _ => below_cell hb hv
theorem BS.below {w w' : World} {v : Value} {l : List UInt8} (h : BS w v l) (hb : Below w.heap.size w w') : BS w' v l := let ⟨A, c, e, h⟩ := h; ⟨A, c, e, h.below hb⟩
theorem addr_add_block (ad : Addr) (j : Nat) : (ad.add j).block = ad.block := by unfold Addr.add; split <;> rfl
theorem BSA.keeps' {S : Nat → Prop} {w w' : World} {A : Option Addr} {c : Nat} {l : List UInt8} (h : BSA w A c l) (hk : Keeps S w w') (hn : ∀ ad, A = some ad → 0 < l.length → ¬ S ad.block) : BSA w' A c l :=
  ⟨h.1, h.2.1, h.2.2.1, fun ad e j hj => hk.cell (h.2.2.2 ad e j hj) (by rw [addr_add_block]; exact hn ad e (by omega))⟩
theorem BSA.keeps {S : Nat → Prop} {w w' : World} {A : Option Addr} {c : Nat} {l : List UInt8} (h : BSA w A c l) (hk : Keeps S w w') (hn : ∀ ad, A = some ad → ¬ S ad.block) : BSA w' A c l :=
  h.moved fun _ _ hv ⟨a0, j, e, ha⟩ => hk.cell hv (by subst ha; rw [addr_add_block]; exact hn a0 e)
theorem BSA.nil (w : World) : BSA w none 0 [] := ⟨by simp, by unfold maxLen; omega, fun _ => rfl, fun _ e => by cases e⟩
theorem BS.nil (w : World) : BS w (.slice none 0 0) [] := ⟨none, 0, rfl, BSA.nil w⟩
theorem add_plain (g j : Nat) : (⟨g, 0, none⟩ : Addr).add j = ⟨g, j, none⟩ := by unfold Addr.add; split <;> simp_all
theorem own_bsa {w : World} {base e n : Nat} {A : Option Addr} {m c : Nat} {l : List UInt8} (h : w.ownsRow base e 1 (.slice A m c) n (bytesV l)) : n = l.length ∧ m = l.length ∧ BSA w A c l := by
  have h0 := h
  obtain ⟨h1, h2⟩ := h
  have hl : l.length = n := by simpa [bytesV] using h1
  rcases h2 with ⟨e1, rfl⟩ | ⟨g, cap, cur, e1, hb, hh, hn, hc, hs, ht⟩
  · cases e1
    obtain rfl := List.eq_nil_of_length_eq_zero hl
    exact ⟨rfl, rfl, BSA.nil w⟩
  · cases e1
    refine ⟨hl.symm, hl.symm, by omega, by simpa using hc, (fun e => by cases e), fun ad e j hj => ?_⟩
    cases e
    exact h0.cells (g := g) rfl j _ (bytesV_get l j hj)
theorem own_bs {w : World} {base e n : Nat} {v : Value} {l : List UInt8} (h : w.ownsRow base e 1 v n (bytesV l)) : BS w v l := by
  rcases h.2 with ⟨rfl, _⟩ | ⟨g, cap, cur, rfl, _⟩
  all_goals
    obtain ⟨h1, h2, h3⟩ := own_bsa h
    exact ⟨_, _, by rw [h2], h3⟩
section
variable {P : Program} {w : World} {ops : Array Oper} {rest : List Oper} {o : Oper} {a : Act} {K : Act → World → Prop} {Q : Exit → Act → World → Prop} {E : Prop}
theorem oper_app (s x : Operand) (t : TypeId)
    (ho : o.op = .call { callee := .builtin .append, args := #[s, x], argTypes := #[t, t] })
    (e : TypeId) (i : TypeInfo) (z : Value) (size bytes : Nat) (ht : P.underlying t = some (.slice e)) (hi : P.info? e = some i) (hz : i.zero = some z)
    (hsize : i.size = size) (hby : i.bytes = bytes) (hzs : z.cells.size = size) (hsz : 0 < size)
    (v : Value) (n : Nat) (xs : List Value) (hs : a.eval s = v) (hown : w.ownsRow 0 e size v n xs)
    (A : Option Addr) (m c : Nat) (news : List Value) (hx : a.eval x = .slice A m c) (hl : news.length = m * size) (hnone : A = none → m = 0 ∧ c = 0) (hnews : ∀ ad, A = some ad → ∀ j u, news[j]? = some u → w.cell? (ad.add j) = some u) (h1 : ∀ u ∈ news, u.oneCell' = true)
    (h63 : n + m ≤ maxLen) (hbytes : (n + m) * bytes ≤ 140737488355328)
    (h : ∀ A' c' w', w'.ownsRow 0 e size (.slice A' (n + m) c') (n + m) (xs ++ news) → w.grownBy w' v.ownBlock → ((Value.slice A' (n + m) c').ownBlock = v.ownBlock ∨ (Value.slice A' (n + m) c').ownBlock = some w.heap.size) → (m = 0 → Value.slice A' (n + m) c' = v) → K (a.put o.dst (.slice A' (n + m) c')) w') : o.wp P a w K Q := by
  cases A with
  | none =>
    obtain ⟨rfl, rfl⟩ := hnone rfl
    have hn0 : news = [] := List.eq_nil_of_length_eq_zero (by simpa using hl)
    subst hn0
    have hrun := run_append_owned_none (P := P) (w := w) 0 t o.type e i size ht hi v n xs hown
    have same : K (a.put o.dst v) w := by
      rcases hown.2 with ⟨rfl, rfl⟩ | ⟨g, cap, cur, rfl, hb, hh, hn, hc, hcs, htk⟩
      · exact h none 0 w (by simpa using hown) (World.grownBy.refl _ _) (.inl rfl) (fun _ => rfl)
      · exact h _ cap w (by simpa using hown) (World.grownBy.refl _ _) (.inl rfl) (fun _ => rfl)
    unfold Oper.wp
    simp [execOp, ho, resolve, invoke, builtin, hs, hx, hrun, Result.andThen]
    exact same
  | some ad =>
    rcases Nat.eq_zero_or_pos m with h0 | h0
    · rcases hown.2 with ⟨rfl, rfl⟩ | ⟨g, cap, cur, rfl, hb, hh, hn, hc, hcs, htk⟩
      · refine wp_append_own w s x t ho 0 e i z size bytes ht hi hz hsize hby hzs hsz _ 0 xs hs hown ad m c news hx hl (hnews ad rfl) h1 h63 hbytes (Nat.zero_le _) ?_
        intro v' w' q1 q2 q3
        obtain rfl := q3.2 ⟨rfl, h0⟩
        subst h0
        exact h none 0 w' q1 q2 (.inl rfl) (fun _ => rfl)
      · obtain ⟨w', hrun, r1, r2⟩ := run_append_fits (P := P) w 0 t o.type e i size ht hi hsize g n cap xs hown ad m c news hl (hnews ad rfl) h1 (by omega)
        have same := h _ cap w' r1 r2 (.inl rfl) (fun e => by subst e; rfl)
        unfold Oper.wp
        simp [execOp, ho, resolve, invoke, builtin, hs, hx, hrun, Result.andThen]
        exact same
    · refine wp_append_lies w s x t ho 0 e i z size bytes ht hi hz hsize hby hzs hsz v n xs hs hown ad m c news hx hl (hnews ad rfl) h1 h0 h63 hbytes (Nat.zero_le _) w.heap.size rfl ?_
      intro g cap w' q1 q2 q3 q4
      refine h _ cap w' q1 q2 ?_ (fun e => by omega)
      rcases q3 with q3 | rfl
      · exact .inl q3.symm
      · exact .inr rfl
theorem wpList_app (hgd : o.guard = none) (s x : Operand) (t : TypeId)
    (ho : o.op = .call { callee := .builtin .append, args := #[s, x], argTypes := #[t, t] })
    (e : TypeId) (i : TypeInfo) (z : Value) (size bytes : Nat) (ht : P.underlying t = some (.slice e)) (hi : P.info? e = some i) (hz : i.zero = some z)
    (hsize : i.size = size) (hby : i.bytes = bytes) (hzs : z.cells.size = size) (hsz : 0 < size)
    (v : Value) (n : Nat) (xs : List Value) (hs : a.eval s = v) (hown : w.ownsRow 0 e size v n xs)
    (A : Option Addr) (m c : Nat) (news : List Value) (hx : a.eval x = .slice A m c) (hl : news.length = m * size) (hnone : A = none → m = 0 ∧ c = 0) (hnews : ∀ ad, A = some ad → ∀ j u, news[j]? = some u → w.cell? (ad.add j) = some u) (h1 : ∀ u ∈ news, u.oneCell' = true)
    (h63 : n + m ≤ maxLen) (hbytes : (n + m) * bytes ≤ 140737488355328)
    (h : ∀ A' c' w', w'.ownsRow 0 e size (.slice A' (n + m) c') (n + m) (xs ++ news) → w.grownBy w' v.ownBlock → ((Value.slice A' (n + m) c').ownBlock = v.ownBlock ∨ (Value.slice A' (n + m) c').ownBlock = some w.heap.size) → (m = 0 → Value.slice A' (n + m) c' = v) → wpList P ops Q rest (a.put o.dst (.slice A' (n + m) c')) w') : wpList P ops Q (o :: rest) a w :=
  wpList_plain hgd fun K hK => oper_app s x t ho e i z size bytes ht hi hz hsize hby hzs hsz v n xs hs hown A m c news hx hl hnone hnews h1 h63 hbytes fun A' c' w' h2 h3 h4 h5 => hK _ _ (h A' c' w' h2 h3 h4 h5)
theorem step_app (hgd : o.guard = none) (s x : Operand) (t : TypeId)
    (ho : o.op = .call { callee := .builtin .append, args := #[s, x], argTypes := #[t, t] })
    (e : TypeId) (i : TypeInfo) (z : Value) (size bytes : Nat) (ht : P.underlying t = some (.slice e)) (hi : P.info? e = some i) (hz : i.zero = some z)
    (hsize : i.size = size) (hby : i.bytes = bytes) (hzs : z.cells.size = size) (hsz : 0 < size)
    (v : Value) (n : Nat) (xs : List Value) (hs : a.eval s = v) (hown : w.ownsRow 0 e size v n xs)
    (A : Option Addr) (m c : Nat) (news : List Value) (hx : a.eval x = .slice A m c) (hl : news.length = m * size) (hnone : A = none → m = 0 ∧ c = 0) (hnews : ∀ ad, A = some ad → ∀ j u, news[j]? = some u → w.cell? (ad.add j) = some u) (h1 : ∀ u ∈ news, u.oneCell' = true)
    (h63 : n + m ≤ maxLen) (hbytes : (n + m) * bytes ≤ 140737488355328)
    (h : ∀ A' c' w', w'.ownsRow 0 e size (.slice A' (n + m) c') (n + m) (xs ++ news) → w.grownBy w' v.ownBlock → ((Value.slice A' (n + m) c').ownBlock = v.ownBlock ∨ (Value.slice A' (n + m) c').ownBlock = some w.heap.size) → (m = 0 → Value.slice A' (n + m) c' = v) → K (a.put o.dst (.slice A' (n + m) c')) w') :
    if Region.wanted o (yielded ops a.tmps) = true then Oper.wp P o a w K Q else E := by
  have hw : Region.wanted o (yielded ops a.tmps) = true := by simp [Region.wanted, hgd]
  rw [if_pos hw]
  exact oper_app s x t ho e i z size bytes ht hi hz hsize hby hzs hsz v n xs hs hown A m c news hx hl hnone hnews h1 h63 hbytes h
theorem bsa_news {w : World} {A : Option Addr} {c : Nat} {l : List UInt8} (h : BSA w A c l) : (bytesV l).length = l.length * 1 ∧ (A = none → l.length = 0 ∧ c = 0) ∧ (∀ ad, A = some ad → ∀ j u, (bytesV l)[j]? = some u → w.cell? (ad.add j) = some u) := by
  refine ⟨by simp [bytesV], fun e => ?_, fun ad e j u hu => ?_⟩
  · have h1 := h.1
    have h3 := h.2.2.1 e
    exact ⟨by omega, h3⟩
  · obtain ⟨hj, rfl⟩ := bytesV_some hu
    exact h.2.2.2 ad e j hj
theorem wpList_app8 (tp te : TypeId) (ht : P.underlying tp = some (.slice te)) (hinf : (P.info? te).map (fun i => (i.zero, i.size, i.bytes)) = some (some (.int .u8 0), 1, 1)) (hgd : o.guard = none) (s x : Operand)
    (ho : o.op = .call { callee := .builtin .append, args := #[s, x], argTypes := #[tp, tp] })
    (v : Value) (xs : List UInt8) (hs : a.eval s = v) (hown : w.ownsRow 0 te 1 v xs.length (bytesV xs)) (A : Option Addr) (c : Nat) (l : List UInt8) (hx : a.eval x = .slice A l.length c) (hb : BSA w A c l)
    (h47 : xs.length + l.length ≤ 140737488355328)
    (h : ∀ A' c' w', w'.ownsRow 0 te 1 (.slice A' (xs.length + l.length) c') (xs.length + l.length) (bytesV (xs ++ l)) → w.grownBy w' v.ownBlock → ((Value.slice A' (xs.length + l.length) c').ownBlock = v.ownBlock ∨ (Value.slice A' (xs.length + l.length) c').ownBlock = some w.heap.size) → (l.length = 0 → Value.slice A' (xs.length + l.length) c' = v) → wpList P ops Q rest (a.put o.dst (.slice A' (xs.length + l.length) c')) w') : wpList P ops Q (o :: rest) a w := by
  obtain ⟨i0, hi, hz0, hz1, hz2⟩ := info_parts hinf
  obtain ⟨n1, n2, n3⟩ := bsa_news hb
  refine wpList_app hgd s x tp ho te i0 (.int .u8 0) 1 1 ht hi hz0 hz1 hz2 rfl (by decide) v xs.length (bytesV xs) hs hown A l.length c (bytesV l) hx n1 n2 n3 (bytesV_one l) (by unfold maxLen; omega) (by omega) ?_
  intro A' c' w' h1 h2 h3 h4
  exact h A' c' w' (by rw [bytesV_append]; exact h1) h2 h3 h4
theorem step_app8 (tp te : TypeId) (ht : P.underlying tp = some (.slice te)) (hinf : (P.info? te).map (fun i => (i.zero, i.size, i.bytes)) = some (some (.int .u8 0), 1, 1)) (hgd : o.guard = none) (s x : Operand)
    (ho : o.op = .call { callee := .builtin .append, args := #[s, x], argTypes := #[tp, tp] })
    (v : Value) (xs : List UInt8) (hs : a.eval s = v) (hown : w.ownsRow 0 te 1 v xs.length (bytesV xs)) (A : Option Addr) (c : Nat) (l : List UInt8) (hx : a.eval x = .slice A l.length c) (hb : BSA w A c l)
    (h47 : xs.length + l.length ≤ 140737488355328)
    (h : ∀ A' c' w', w'.ownsRow 0 te 1 (.slice A' (xs.length + l.length) c') (xs.length + l.length) (bytesV (xs ++ l)) → w.grownBy w' v.ownBlock → ((Value.slice A' (xs.length + l.length) c').ownBlock = v.ownBlock ∨ (Value.slice A' (xs.length + l.length) c').ownBlock = some w.heap.size) → (l.length = 0 → Value.slice A' (xs.length + l.length) c' = v) → K (a.put o.dst (.slice A' (xs.length + l.length) c')) w') :
    if Region.wanted o (yielded ops a.tmps) = true then Oper.wp P o a w K Q else E := by
  obtain ⟨i0, hi, hz0, hz1, hz2⟩ := info_parts hinf
  obtain ⟨n1, n2, n3⟩ := bsa_news hb
  refine step_app hgd s x tp ho te i0 (.int .u8 0) 1 1 ht hi hz0 hz1 hz2 rfl (by decide) v xs.length (bytesV xs) hs hown A l.length c (bytesV l) hx n1 n2 n3 (bytesV_one l) (by unfold maxLen; omega) (by omega) ?_
  intro A' c' w' h1 h2 h3 h4
  exact h A' c' w' (by rw [bytesV_append]; exact h1) h2 h3 h4
end
theorem own_empty (w : World) (e : TypeId) (size : Nat) : (w.alloc (.cells #[] e)).ownsRow 0 e size (.slice (some ⟨w.heap.size, 0, none⟩) 0 0) 0 [] :=
  World.ownsRow_made w #[] 0 (Nat.zero_le _) (by unfold maxLen; omega) (by simp)
end Go.Proofs.YtnidgljkbmceaaaGreatDoor
namespace Go.Proofs.YtnidgljkbmceaaaGreatDoor
open Go.RowKit PrintLast
theorem infU8 : (Tryz.prog.info? 5).map (fun i => (i.zero, i.size, i.bytes)) = some (some (.int .u8 0), 1, 1) := by kernel_rfl
def Made (w w' : World) (v : Value) (l : List UInt8) : Prop :=
  w'.ownsRow 0 5 1 v l.length (bytesV l) ∧ (∀ k, v.ownBlock = some k → w.heap.size ≤ k) ∧ Below w.heap.size w w'
set_option maxHeartbeats 400000 in
theorem join_any {w : World} {A B : Option Addr} {c d : Nat} {x y : List UInt8} (hx : BSA w A c x) (hy : BSA w B d y) (hbig : x.length + y.length ≤ 140737488355328) :
    Calls Tryz.prog 97 #[.slice A x.length c, .slice B y.length d] w fun e w' => ∃ A' c', e = .returned (.slice A' (x.length + y.length) c') ∧ Made w w' (.slice A' (x.length + y.length) c') (x ++ y) := by
  go_enter Tryz.func97, Tryz.ntmps97
  go_wp2_with (at_builtin; refine wpList_app8 36 5 Tryz.underlying36 infU8 rfl (.tmp 6) (.tmp 7) rfl _ [] rfl (World.ownsRow_nil _ _ _ _) A c x rfl hx (by simp; omega) ?_)
  intro A1 c1 w1 h1 h2 h3 h4
  try simp only [List.length_nil, Nat.zero_add, List.nil_append] at h1 h3 ⊢
  have hb1 : Below w.heap.size w w1 := (Below.refl _ _).grown h2 (Nat.le_refl _) (fun k hk => by simp [Value.ownBlock] at hk)
  have hy1 := hy.below hb1
  clear h4
  go_wp2_with (at_builtin; refine wpList_app8 36 5 Tryz.underlying36 infU8 rfl (.tmp 9) (.tmp 10) rfl _ x rfl h1 B d y rfl hy1 hbig ?_)
  intro A2 c2 w2 k1 k2 k3 k4
  clear k4
  have hfr : ∀ k, (Value.slice A1 x.length c1).ownBlock = some k → w.heap.size ≤ k := fun k hk => by
    rcases h3 with h3 | h3
    · rw [h3] at hk; simp [Value.ownBlock] at hk
    · rw [h3] at hk; simp at hk; omega
  go_wp2
  go_ret
  refine ⟨A2, c2, rfl, by simpa using k1, fun k hk => ?_, hb1.grown k2 hb1.size hfr⟩
  rcases k3 with k3 | k3
  · rw [k3] at hk; exact hfr k hk
  · rw [k3] at hk; simp at hk; have := hb1.size; omega
def Row (w : World) (B : Nat) (A : Option Addr) (c : Nat) (l : List UInt8) : Prop := w.ownsRow B 5 1 (.slice A l.length c) l.length (bytesV l)
theorem Row.nil (w : World) (B : Nat) : Row w B none 0 [] := World.ownsRow_nil _ _ _ _
theorem Row.bsa {w : World} {B c : Nat} {A : Option Addr} {l : List UInt8} (h : Row w B A c l) : BSA w A c l := (own_bsa h).2.2
theorem Row.below {w w' : World} {B c : Nat} {A : Option Addr} {l : List UInt8} (h : Row w B A c l) (hb : Below w.heap.size w w') : Row w' B A c l := below_own hb h
theorem Row.lower {w : World} {B B' c : Nat} {A : Option Addr} {l : List UInt8} (h : Row w B A c l) (hB : B' ≤ B) : Row w B' A c l := by
  refine ⟨h.1, ?_⟩
  rcases h.2 with k | ⟨g, cap, cur, e, hb, r⟩
  · exact .inl k
  · exact .inr ⟨g, cap, cur, e, Nat.le_trans hB hb, r⟩
theorem Made.row {w w' : World} {A : Option Addr} {c n : Nat} {l : List UInt8} (h : Made w w' (.slice A n c) l) (hn : n = l.length) : Row w' w.heap.size A c l := by
  subst hn
  obtain ⟨h1, h2, h3⟩ := h
  refine ⟨h1.1, ?_⟩
  rcases h1.2 with k | ⟨g, cap, cur, e, hb, r⟩
  · exact .inl k
  · exact .inr ⟨g, cap, cur, e, h2 g (by rw [e]; rfl), r⟩
theorem infU8' : (Tryz.prog.info? 5).map (fun i => (i.zero, i.size, i.bytes)) = some (some (.int .u8 0), 1, 1) := by kernel_rfl
theorem wpList_appR {w : World} {ops : Array Oper} {rest : List Oper} {o : Oper} {a : Act} {Q : Exit → Act → World → Prop} (hgd : o.guard = none) (s x : Operand)
    (ho : o.op = .call { callee := .builtin .append, args := #[s, x], argTypes := #[36, 36] }) (B : Nat) (hB : B ≤ w.heap.size)
    (R : Option Addr) (c : Nat) (l : List UInt8) (hs : a.eval s = .slice R l.length c) (hR : Row w B R c l) (ad : Addr) (c2 : Nat) (q : List UInt8) (hx : a.eval x = .slice (some ad) q.length c2) (hb : BSA w (some ad) c2 q)
    (h47 : l.length + q.length ≤ 140737488355328) (n : Nat) (hn : l.length + q.length = n)
    (h : ∀ R' c' w', Row w' B R' c' (l ++ q) → Below B w w' → Keeps (fun k => ∃ ad, R = some ad ∧ ad.block = k) w w' → (R' = none → q = []) → wpList Tryz.prog ops Q rest (a.put o.dst (.slice R' n c')) w') : wpList Tryz.prog ops Q (o :: rest) a w := by
  subst hn
  obtain ⟨i0, hi, hz0, hz1, hz2⟩ := info_parts infU8'
  obtain ⟨n1, n2, n3⟩ := bsa_news hb
  refine wpList_append_own w hgd s x 36 ho B 5 i0 (.int .u8 0) 1 1 Tryz.underlying36 hi hz0 hz1 hz2 rfl (by decide) _ l.length (bytesV l) hs hR ad q.length c2 (bytesV q) hx n1 (n3 ad rfl) (bytesV_one _) (by unfold maxLen; omega) (by omega) hB ?_
  intro v' w' k1 k2 k3
  have hform : ∃ A' c', v' = .slice A' (l.length + q.length) c' := by
    rcases k1.2 with ⟨e, h0⟩ | ⟨g', cap', cur', e', _⟩
    · rw [e, h0]; exact ⟨_, _, rfl⟩
    · exact ⟨_, _, e'⟩
  obtain ⟨A', c', rfl⟩ := hform
  refine h A' c' w' (by unfold Row; rw [bytesV_append, List.length_append]; exact k1) ((Below.refl B w).grown k2 hB (fun k hk => (hR.lt k hk).1)) ((Keeps.refl _ w).grown k2 (fun k hk _ => by
    cases R with
    | none => cases hk
    | some ad => simp only [Value.ownBlock, Option.some.injEq] at hk; exact ⟨ad, rfl, hk⟩)) (fun e => ?_)
  subst e
  rcases k1.2 with ⟨e, h0⟩ | ⟨g', cap', cur', e', _⟩
  · exact List.eq_nil_of_length_eq_zero (by omega)
  · cases e'
def numBytes (n m : Nat) : List UInt8 := (List.range m).map fun j => UInt8.ofNat (n / 2 ^ (8 * (m - 1 - j)))
theorem numBytes_length (n m : Nat) : (numBytes n m).length = m := by simp [numBytes]
theorem numBytes_next (n m k : Nat) (h : k < m) : (numBytes n m).take (k + 1) = (numBytes n m).take k ++ [UInt8.ofNat (n / 2 ^ (8 * (m - 1 - k)))] := by
  rw [List.take_succ_eq_append_getElem (by rw [numBytes_length]; exact h)]
  congr 2
  simp only [numBytes, List.getElem_map, List.getElem_range]
theorem byte_div (n m : Nat) : ((n : Int) / 2 ^ m) % 256 = ((UInt8.ofNat (n / 2 ^ m)).toNat : Int) := by
  rw [UInt8.toNat_ofNat']
  simp
theorem lit_bsa (w : World) (x : UInt8) : BSA (w.alloc (.cells #[.int .u8 (x.toNat : Int)] 5)) (some ⟨w.heap.size, 0, none⟩) 1 [x] := by
  refine ⟨by simp, by unfold maxLen; omega, (fun e => by cases e), fun ad e j hj => ?_⟩
  cases e
  have hj0 : j = 0 := by simp at hj; omega
  subst hj0
  rw [add_plain]
  exact cell_at (heap_alloc_new w _) rfl
set_option maxHeartbeats 800000 in
theorem num_any {w : World} {n m : Nat} (hm : m ≤ 8) :
    Calls Tryz.prog 98 #[.int .u64 (n : Int), .int .i64 (m : Int)] w fun e w' => ∃ A c, e = .returned (.slice A m c) ∧ Row w' w.heap.size A c (numBytes n m) ∧ (0 < m → A ≠ none) ∧ Below w.heap.size w w' := by
  go_enter Tryz.func98, Tryz.ntmps98
  go_wp2
  go_loopw [5, 6] (fun v i wr => ∃ (k : Nat) (A : Option Addr) (c : Nat), k ≤ m ∧ i = .int .i64 k ∧ v = .slice A k c ∧ Row wr w.heap.size A c ((numBytes n m).take k) ∧ (0 < k → A ≠ none) ∧ Below w.heap.size w wr) (fun _ i _ => m - (intOf i).toNat)
  case atStart => exact ⟨0, none, 0, Nat.zero_le _, rfl, rfl, Row.nil _ _, by omega, Below.refl _ _⟩
  case round =>
    obtain ⟨k, A, c, hk, rfl, rfl, hR, hA, hb⟩ := hrel
    by_cases hlt : k < m
    · have tk : decide ((k : Int) < (m : Int)) = true := by simp; omega
      obtain ⟨sh, hsh⟩ : ∃ s, s = 8 * (m - 1 - k) := ⟨_, rfl⟩
      have hs64 : sh < 64 := by omega
      have e1 : 8 * ((m : Int) - 1 - (k : Int)) = (sh : Int) := by omega
      have w1 : wrap64 ((m : Int) - 1) = (m : Int) - 1 := by unfold wrap64; omega
      have w2 : wrap64 ((m : Int) - 1 - (k : Int)) = (m : Int) - 1 - (k : Int) := by unfold wrap64; omega
      have w3 : wrap64 (sh : Int) = (sh : Int) := by unfold wrap64; omega
      have HN := numBytes_next n m k hlt
      rw [← hsh] at HN
      have Bf := byte_div n sh
      obtain ⟨x, hx⟩ : ∃ x, x = UInt8.ofNat (n / 2 ^ sh) := ⟨_, rfl⟩
      rw [← hx] at HN Bf
      have HN' := hid HN
      have hl : ((numBytes n m).take k).length = k := by rw [List.length_take, numBytes_length]; omega
      have sB := hb.size
      have hRa := hR.below (below_alloc (Below.refl _ wr) (.cells #[.int .u8 (x.toNat : Int)] 5))
      have hba := hb.alloc sB (.cells #[.int .u8 (x.toNat : Int)] 5)
      clear HN hx hsh
      go_wp2_with (refine wpList_appR rfl (.tmp 12) (.tmp 21) rfl w.heap.size (Nat.le_trans sB (below_alloc (Below.refl _ wr) (.cells #[.int .u8 (x.toNat : Int)] 5)).size) A c ((numBytes n m).take k) (by rw [hl]; rfl) hRa _ 1 [x] rfl (lit_bsa wr x) (by rw [hl]; simp; omega) (k + 1) (by rw [hl]; rfl) ?_)
      intro R' c' w' h1 h2 _ h3
      rw [← HN'.out] at h1
      go_wp2
      exact ⟨⟨k + 1, R', c', by omega, by go_num, rfl, h1, (fun _ e => by have := h3 e; simp at this), hba.trans h2⟩, by simp [intOf]; omega⟩
    · obtain rfl : k = m := by omega
      have tk : decide ((k : Int) < (k : Int)) = false := by simp
      rw [List.take_of_length_le (by rw [numBytes_length]; exact Nat.le_refl _)] at hR
      go_wp2
      go_ret
      exact ⟨A, c, rfl, hR, hA, hb⟩
def readNat (l : List UInt8) : Nat := l.foldl (fun n b => 256 * n + b.toNat) 0
theorem readNat_append (l : List UInt8) (b : UInt8) : readNat (l ++ [b]) = 256 * readNat l + b.toNat := by simp [readNat]
theorem readNat_lt : ∀ (n : Nat) (l : List UInt8), l.length = n → readNat l < 256 ^ n
  | 0, l, h => by
    obtain rfl := List.eq_nil_of_length_eq_zero h
    simp [readNat]
  | n + 1, l, h => by
    obtain ⟨m, b, rfl⟩ : ∃ m b, l = m ++ [b] := ⟨l.dropLast, l.getLast (by intro e; simp [e] at h), (List.dropLast_concat_getLast _).symm⟩
    have := readNat_lt n m (by simpa using h)
    have := b.toNat_lt
    rw [readNat_append, Nat.pow_succ]
    omega
set_option maxHeartbeats 800000 in
theorem readN_any {w : World} {A : Option Addr} {c : Nat} {l : List UInt8} (h : BSA w A c l) (hl : l.length ≤ 8) :
    Calls Tryz.prog 99 #[.slice A l.length c] w fun e w' => e = .returned (.int .u64 (readNat l : Int)) ∧ w = w' := by
  go_enter Tryz.func99, Tryz.ntmps99
  go_wp2
  go_loopw [3, 4] (fun v i wr => ∃ k : Nat, k ≤ l.length ∧ i = .int .i64 k ∧ v = .int .u64 (readNat (l.take k) : Int) ∧ w = wr) (fun _ i _ => l.length - (intOf i).toNat)
  case atStart => exact ⟨0, Nat.zero_le _, rfl, rfl, rfl⟩
  case round =>
    obtain ⟨k, hk, rfl, rfl, rfl⟩ := hrel
    by_cases hlt : k < l.length
    · have tk : decide ((k : Int) < (l.length : Int)) = true := by simp; omega
      obtain ⟨ad, rfl, cx⟩ := h.cell k hlt
      have e1 : readNat (l.take (k + 1)) = 256 * readNat (l.take k) + l[k].toNat := by rw [List.take_succ_eq_append_getElem hlt, readNat_append]
      have b1 := readNat_lt k (l.take k) (by simp; omega)
      have b2 : 256 ^ k ≤ 256 ^ 7 := Nat.pow_le_pow_right (by omega) (by omega)
      have b3 := l[k].toNat_lt
      obtain ⟨r, hr⟩ : ∃ r, r = readNat (l.take k) := ⟨_, rfl⟩
      obtain ⟨x, hx⟩ : ∃ x, x = l[k] := ⟨_, rfl⟩
      rw [← hr] at e1 b1 ⊢
      rw [← hx] at e1 b3 cx
      have q1 : (256 * (r : Int)) % 18446744073709551616 = 256 * (r : Int) := by omega
      have q2 : (256 * (r : Int) + (x.toNat : Int)) % 18446744073709551616 = 256 * (r : Int) + (x.toNat : Int) := by omega
      have E1 := hid e1
      have q3 : (x.toNat : Int) % 18446744073709551616 = (x.toNat : Int) := by omega
      clear hr hx e1 b1 b2
      go_wp2
      exact ⟨⟨k + 1, hlt, by go_num, by rw [E1.out]; simp, trivial⟩, by simp [intOf]; omega⟩
    · have tk : decide ((k : Int) < (l.length : Int)) = false := by simp; omega
      rw [List.take_of_length_le (by omega)]
      go_wp2
      go_ret
      exact ⟨rfl, rfl⟩
end Go.Proofs.YtnidgljkbmceaaaGreatDoor
namespace Go.Proofs.YtnidgljkbmceaaaGreatDoor
open Go.RowKit
def wAnd (x y : UInt32) : UInt32 := x &&& y
def wOr (x y : UInt32) : UInt32 := x ||| y
def wXor (x y : UInt32) : UInt32 := x ^^^ y
def wAdd (x y : UInt32) : UInt32 := x + y
def wShr (x : UInt32) (n : Nat) : UInt32 := x >>> UInt32.ofNat n
def wShl (x : UInt32) (n : Nat) : UInt32 := x <<< UInt32.ofNat n
def rotr (x : UInt32) (n : Nat) : UInt32 := wOr (wShr x n) (wShl x (32 - n))
theorem word_lt (x : UInt32) : (x.toNat : Int) < 4294967296 := by have := x.toNat_lt; omega
theorem word_and (x y : UInt32) : bits .and .u32 (x.toNat : Int) (y.toNat : Int) = ((wAnd x y).toNat : Int) := by
  rw [u32_and_nat _ _ x.toNat_lt y.toNat_lt, wAnd, UInt32.toNat_and]
theorem word_or (x y : UInt32) : bits .or .u32 (x.toNat : Int) (y.toNat : Int) = ((wOr x y).toNat : Int) := by
  rw [u32_or_nat _ _ x.toNat_lt y.toNat_lt, wOr, UInt32.toNat_or]
theorem word_xor (x y : UInt32) : bits .xor .u32 (x.toNat : Int) (y.toNat : Int) = ((wXor x y).toNat : Int) := by
  rw [u32_xor_nat _ _ x.toNat_lt y.toNat_lt, wXor, UInt32.toNat_xor]
theorem word_add (x y : UInt32) : ((x.toNat : Int) + (y.toNat : Int)) % 4294967296 = ((wAdd x y).toNat : Int) := by
  rw [wAdd, UInt32.toNat_add]; omega
theorem word_shr (x : UInt32) (n : Nat) (h : n < 32) : (x.toNat : Int) / 2 ^ n = ((wShr x n).toNat : Int) := by
  rw [wShr, UInt32.toNat_shiftRight, UInt32.toNat_ofNat_of_lt' (by simp [UInt32.size]; omega), Nat.mod_eq_of_lt h, Nat.shiftRight_eq_div_pow]
  simp
theorem word_shl (x : UInt32) (n : Nat) (h : n < 32) : (x.toNat : Int) * 2 ^ n % 4294967296 = ((wShl x n).toNat : Int) := by
  rw [wShl, UInt32.toNat_shiftLeft, UInt32.toNat_ofNat_of_lt' (by simp [UInt32.size]; omega), Nat.mod_eq_of_lt h, Nat.shiftLeft_eq]
  simp
theorem turn_any {w : World} {x : UInt32} {n : Nat} (h0 : 0 < n) (h1 : n < 32) :
    Calls Tryz.prog 100 #[.int .u32 (x.toNat : Int), .int .i64 (n : Int)] w fun e w' => e = .returned (.int .u32 ((rotr x n).toNat : Int)) ∧ Below w.heap.size w w' := by
  have e1 := word_shr x n h1
  have e2 := word_shl x (32 - n) (by omega)
  have e3 := word_or (wShr x n) (wShl x (32 - n))
  go_enter Tryz.func100, Tryz.ntmps100
  go_wp2
  go_region
  all_goals
    go_wp2
    go_ret
    exact ⟨rfl, (Below.refl _ w).drew⟩
theorem back_by : ∀ n : Fin 32, 0 < n.val → bits .and .u64 (IntKind.u64.wrap (-(n.val : Int))) 31 = ((32 - n.val : Nat) : Int) ∧ (IntKind.u64.wrap (32 - ((32 - n.val : Nat) : Int))).toNat = n.val := by decide
theorem rotl_any {w : World} {x : UInt32} {n : Nat} (h0 : 0 < n) (h1 : n < 32) :
    Calls Tryz.prog 161 #[.int .u32 (x.toNat : Int), .int .i64 (-(n : Int))] w fun e w' => e = .returned (.int .u32 ((rotr x n).toNat : Int)) ∧ w = w' := by
  obtain ⟨e0, e4⟩ := back_by ⟨n, h1⟩ h0
  have e1 := word_shr x n h1
  have e2 := word_shl x (32 - n) (by omega)
  have e3 : wOr (wShl x (32 - n)) (wShr x n) = rotr x n := by unfold rotr wOr; exact UInt32.or_comm _ _
  obtain ⟨m, hm⟩ : ∃ m, m = 32 - n := ⟨_, rfl⟩
  have m32 : m < 32 := by omega
  have E3 := word_or (wShl x m) (wShr x n)
  simp only [← hm] at e0 e2 e3 e4
  rw [e3] at E3
  have e5 : min m 32 = m := by omega
  have e6 : min n 32 = n := by omega
  have e7 : (x.toNat : Int) / 2 ^ (32 - m) = ((wShr x n).toNat : Int) := by rw [← e1]; congr 2; omega
  clear hm e3
  go_enter Tryz.func161, Tryz.ntmps161
  go_wp2
  go_ret
  exact ⟨rfl, rfl⟩
theorem spread_any {w : World} {x y : UInt32} {a b : Nat} (ha : 0 < a ∧ a < 32) (hb : 0 < b ∧ b < 32) :
    Calls Tryz.prog 160 #[.int .u32 (x.toNat : Int), .int .i64 (a : Int), .int .i64 (b : Int), .int .u32 (y.toNat : Int)] w fun e w' => e = .returned (.int .u32 ((wXor (wXor (rotr x a) (rotr x b)) y).toNat : Int)) ∧ w = w' := by
  have e1 := word_xor (rotr x a) (rotr x b)
  have e2 := word_xor (wXor (rotr x a) (rotr x b)) y
  obtain ⟨ha1, ha2⟩ := ha
  obtain ⟨hb1, hb2⟩ := hb
  go_enter Tryz.func160, Tryz.ntmps160
  go_wp2_with fail
  refine (rotl_any ha1 ha2).mono ?_
  rintro e w1 ⟨rfl, rfl⟩
  go_wp2_with fail
  refine (rotl_any hb1 hb2).mono ?_
  rintro e w1 ⟨rfl, rfl⟩
  go_wp2
  go_ret
  exact ⟨rfl, rfl⟩
end Go.Proofs.YtnidgljkbmceaaaGreatDoor
namespace Go.Proofs.YtnidgljkbmceaaaGreatDoor
def wNot (x : UInt32) : UInt32 := 4294967295 - x
theorem word_not (x : UInt32) : 4294967295 - (x.toNat : Int) = ((wNot x).toNat : Int) := by
  have h := x.toNat_lt
  rw [wNot, UInt32.toNat_sub_of_le _ _ (by rw [UInt32.le_iff_toNat_le]; show x.toNat ≤ 4294967295; omega)]
  show _ = (((4294967295 : Nat) - x.toNat : Nat) : Int)
  omega
def choice (e f g : UInt32) : UInt32 := wOr (wAnd e f) (wAnd (wNot e) g)
def most (a b c : UInt32) : UInt32 := wXor (wXor (wAnd a b) (wAnd a c)) (wAnd b c)
theorem choice_eq (e f g : UInt32) : wXor g (wAnd e (wXor f g)) = choice e f g := by
  unfold choice wXor wAnd wOr wNot
  rw [← UInt32.toBitVec_inj]
  simp only [UInt32.toBitVec_xor, UInt32.toBitVec_and, UInt32.toBitVec_or, UInt32.toBitVec_sub]
  have : (4294967295 : UInt32).toBitVec = BitVec.allOnes 32 := rfl
  rw [this, BitVec.allOnes_sub_eq_not]
  ext i
  simp
  cases e.toBitVec[i] <;> cases f.toBitVec[i] <;> cases g.toBitVec[i] <;> rfl
theorem most_eq (a b c : UInt32) : wOr (wAnd a b) (wAnd c (wOr a b)) = most a b c := by
  unfold most wXor wAnd wOr
  rw [← UInt32.toBitVec_inj]
  simp only [UInt32.toBitVec_xor, UInt32.toBitVec_and, UInt32.toBitVec_or]
  ext i
  simp
  cases a.toBitVec[i] <;> cases b.toBitVec[i] <;> cases c.toBitVec[i] <;> rfl
theorem wAdd_assoc (x y z : UInt32) : wAdd (wAdd x y) z = wAdd x (wAdd y z) := UInt32.add_assoc x y z
theorem wAdd_comm (x y : UInt32) : wAdd x y = wAdd y x := UInt32.add_comm x y
def sig0 (a : UInt32) : UInt32 := wXor (wXor (rotr a 7) (rotr a 18)) (wShr a 3)
def sig1 (b : UInt32) : UInt32 := wXor (wXor (rotr b 17) (rotr b 19)) (wShr b 10)
def nextW (l : List UInt32) : UInt32 :=
  wAdd (wAdd (wAdd (l.getD (l.length - 16) 0) (l.getD (l.length - 7) 0)) (sig0 (l.getD (l.length - 15) 0))) (sig1 (l.getD (l.length - 2) 0))
def sched (m : List UInt32) : Nat → List UInt32
  | 0 => m
  | n + 1 => sched m n ++ [nextW (sched m n)]
theorem sched_length (m : List UInt32) (hm : m.length = 16) : ∀ n, (sched m n).length = 16 + n
  | 0 => hm
  | n + 1 => by simp [sched, sched_length m hm n]; omega
theorem sched_get (m : List UInt32) (hm : m.length = 16) (n : Nat) : ∀ k, n ≤ k → ∀ i, i < 16 + n → (sched m k).getD i 0 = (sched m n).getD i 0
  | 0, h, i, _ => by have : n = 0 := by omega
                     subst this; rfl
  | k + 1, h, i, hi => by
    by_cases e : n = k + 1
    · subst e; rfl
    · have l := sched_length m hm k
      rw [← sched_get m hm n k (by omega) i hi]
      simp only [sched, List.getD_eq_getElem?_getD]
      rw [List.getElem?_append_left (by omega)]
def W (m : List UInt32) (i : Nat) : UInt32 := (sched m 48).getD i 0
theorem W_low {m : List UInt32} (hm : m.length = 16) {i : Nat} (hi : i < 16) : W m i = m.getD i 0 := sched_get m hm 0 48 (by omega) i (by omega)
theorem W_next {m : List UInt32} (hm : m.length = 16) {i : Nat} (h : 16 ≤ i) (hi : i < 64) : W m i = wAdd (wAdd (wAdd (W m (i - 16)) (W m (i - 7))) (sig0 (W m (i - 15)))) (sig1 (W m (i - 2))) := by
  obtain ⟨n, rfl⟩ : ∃ n, i = 16 + n := ⟨i - 16, by omega⟩
  have l := sched_length m hm n
  have e : ∀ j, j < 16 + n → W m j = (sched m n).getD j 0 := fun j hj => sched_get m hm n 48 (by omega) j hj
  rw [e (16 + n - 16) (by omega), e (16 + n - 7) (by omega), e (16 + n - 15) (by omega), e (16 + n - 2) (by omega)]
  unfold W
  rw [sched_get m hm (n + 1) 48 (by omega) (16 + n) (by omega)]
  simp only [sched, List.getD_eq_getElem?_getD]
  rw [List.getElem?_append_right (by omega), l]
  simp [nextW, l]
def roundK : List UInt32 := [1116352408, 1899447441, 3049323471, 3921009573, 961987163, 1508970993, 2453635748, 2870763221, 3624381080, 310598401, 607225278, 1426881987, 1925078388, 2162078206, 2614888103, 3248222580, 3835390401, 4022224774, 264347078, 604807628, 770255983, 1249150122, 1555081692, 1996064986, 2554220882, 2821834349, 2952996808, 3210313671, 3336571891, 3584528711, 113926993, 338241895, 666307205, 773529912, 1294757372, 1396182291, 1695183700, 1986661051, 2177026350, 2456956037, 2730485921, 2820302411, 3259730800, 3345764771, 3516065817, 3600352804, 4094571909, 275423344, 430227734, 506948616, 659060556, 883997877, 958139571, 1322822218, 1537002063, 1747873779, 1955562222, 2024104815, 2227730452, 2361852424, 2428436474, 2756734187, 3204031479, 3329325298]
def roundT (k w : UInt32) (e f g h : UInt32) : UInt32 :=
  wAdd (wAdd (wAdd (wAdd h (wXor (wXor (rotr e 6) (rotr e 11)) (rotr e 25))) (choice e f g)) k) w
def roundU (a b c : UInt32) : UInt32 := wAdd (wXor (wXor (rotr a 2) (rotr a 13)) (rotr a 22)) (most a b c)
def step (k w : UInt32) : List UInt32 → List UInt32
  | [a, b, c, d, e, f, g, h] => [wAdd (roundT k w e f g h) (roundU a b c), a, b, c, wAdd d (roundT k w e f g h), e, f, g]
  | s => s
def rounds (m : List UInt32) : Nat → List UInt32 → List UInt32
  | 0, s => s
  | n + 1, s => step (roundK.getD n 0) (W m n) (rounds m n s)
theorem eight {s : List UInt32} (h : s.length = 8) : ∃ a b c d e f g i, s = [a, b, c, d, e, f, g, i] := by
  match s, h with
  | [a, b, c, d, e, f, g, i], _ => exact ⟨a, b, c, d, e, f, g, i, rfl⟩
theorem step_length (k w : UInt32) {s : List UInt32} (h : s.length = 8) : (step k w s).length = 8 := by
  obtain ⟨a, b, c, d, e, f, g, i, rfl⟩ := eight h
  rfl
theorem rounds_length (m : List UInt32) {s : List UInt32} (h : s.length = 8) : ∀ n, (rounds m n s).length = 8
  | 0 => h
  | n + 1 => step_length _ _ (rounds_length m h n)
def comp (m s : List UInt32) : List UInt32 := List.zipWith wAdd s (rounds m 64 s)
theorem comp_length (m : List UInt32) {s : List UInt32} (h : s.length = 8) : (comp m s).length = 8 := by
  unfold comp; rw [List.length_zipWith, h, rounds_length m h]; rfl
def be (l : List UInt8) : UInt32 := l.foldl (fun x b => wOr (wShl x 8) b.toUInt32) 0
def chunk (p : List UInt8) (j : Nat) : List UInt8 := (p.drop (4 * j)).take 4
def wordsOf (p : List UInt8) : List UInt32 := (List.range 16).map fun j => be (chunk p j)
theorem wordsOf_length (p : List UInt8) : (wordsOf p).length = 16 := by simp [wordsOf]
def run (s : List UInt32) (p : List UInt8) : List UInt32 × List UInt8 :=
  if h : 64 ≤ p.length then run (comp (wordsOf (p.take 64)) s) (p.drop 64) else (s, p)
termination_by p.length
decreasing_by simp; omega
theorem run_short {s : List UInt32} {p : List UInt8} (h : p.length < 64) : run s p = (s, p) := by
  rw [run, dif_neg (by omega)]
theorem run_block {s : List UInt32} {p : List UInt8} (h : 64 ≤ p.length) : run s p = run (comp (wordsOf (p.take 64)) s) (p.drop 64) := by
  rw [run, dif_pos h]
theorem run_rest (s : List UInt32) (p : List UInt8) : (run s p).2 = p.drop (p.length / 64 * 64) := by
  by_cases h : 64 ≤ p.length
  · rw [run_block h, run_rest _ (p.drop 64), List.drop_drop]
    congr 1
    simp only [List.length_drop]
    omega
  · rw [run_short (by omega)]
    have : p.length / 64 = 0 := by omega
    simp [this]
termination_by p.length
decreasing_by simp; omega
theorem run_rest_length (s : List UInt32) (p : List UInt8) : (run s p).2.length = p.length % 64 := by
  rw [run_rest]; simp only [List.length_drop]; omega
theorem run_append (s : List UInt32) (p q : List UInt8) : run s (p ++ q) = run (run s p).1 ((run s p).2 ++ q) := by
  by_cases h : 64 ≤ p.length
  · rw [run_block (p := p) h, ← run_append _ (p.drop 64) q, run_block (p := p ++ q) (by simp; omega)]
    rw [List.take_append_of_le_length h, List.drop_append_of_le_length h]
  · rw [run_short (p := p) (by omega)]
termination_by p.length
decreasing_by simp; omega
theorem run_length {s : List UInt32} (h : s.length = 8) (p : List UInt8) : (run s p).1.length = 8 := by
  by_cases h64 : 64 ≤ p.length
  · rw [run_block h64]; exact run_length (comp_length _ h) (p.drop 64)
  · rw [run_short (by omega)]; exact h
termination_by p.length
decreasing_by simp; omega
def first : List UInt32 := [1779033703, 3144134277, 1013904242, 2773480762, 1359893119, 2600822924, 528734635, 1541459225]
def eightBytes (n : Nat) : List UInt8 := (List.range 8).map fun j => UInt8.ofNat (n / 2 ^ (8 * (7 - j)))
def noughts (n : Nat) : Nat := (119 - n % 64) % 64
def padded (p : List UInt8) : List UInt8 := p ++ [128] ++ List.replicate (noughts p.length) 0 ++ eightBytes (8 * p.length)
def fourBytes (x : UInt32) : List UInt8 := (List.range 4).map fun j => UInt8.ofNat (x.toNat / 2 ^ (8 * (3 - j)))
def bytesOf (s : List UInt32) : List UInt8 := s.flatMap fourBytes
def sum256 (p : List UInt8) : List UInt8 := bytesOf (run first (padded p)).1
theorem noughts_spec (n : Nat) : (n + 1 + noughts n) % 64 = 56 := by unfold noughts; omega
theorem noughts_min (n k : Nat) (h : (n + 1 + k) % 64 = 56) : noughts n ≤ k := by unfold noughts; omega
theorem padded_length (p : List UInt8) : (padded p).length = p.length + 1 + noughts p.length + 8 := by simp [padded, eightBytes]; omega
theorem padded_whole (p : List UInt8) : (padded p).length % 64 = 0 := by rw [padded_length]; have := noughts_spec p.length; omega
theorem fourBytes_length (x : UInt32) : (fourBytes x).length = 4 := by simp [fourBytes]
end Go.Proofs.YtnidgljkbmceaaaGreatDoor
