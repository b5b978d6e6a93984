/- The reference's items in memory; append of one more. -/
import Derived.Test.YtmbgfjcmdolggaaDoorMH
import Derived.Test.YtmbgfjcmdolggaaDoorME
set_option linter.unusedVariables false
set_option linter.unusedSimpArgs false
namespace Go.Proofs.YtmbgfjcmdolggaaDoor
open Go.RowKit PrintLast

/-- An item, and where its row lies. -/
structure RI where
  key : ByteArray
  A : Option Addr
  c : Nat
  row : List UInt8
def RI.itm (x : RI) : Itm := ⟨x.key, x.row⟩
def RI.val (x : RI) : Value := .slice x.A x.row.length x.c
def itV : List RI → List Value
  | [] => []
  | x :: l => .string x.key :: x.val :: itV l
theorem itV_length (l : List RI) : (itV l).length = l.length * 2 := by
  induction l with
  | nil => rfl
  | cons x l ih => simp [itV, ih]; omega
theorem itV_append (l m : List RI) : itV (l ++ m) = itV l ++ itV m := by
  induction l with
  | nil => rfl
  | cons x l ih => simp [itV, ih]
theorem itV_get (l : List RI) : ∀ (j : Nat) (h : j < l.length), (itV l)[j * 2]? = some (.string l[j].key) ∧ (itV l)[j * 2 + 1]? = some l[j].val := by
  induction l with
  | nil => intro j h; simp at h
  | cons x l ih =>
    intro j h
    cases j with
    | zero => exact ⟨rfl, rfl⟩
    | succ j =>
      have := ih j (by simpa using h)
      rw [show (j + 1) * 2 = j * 2 + 1 + 1 by omega]
      exact this
def RowsOf (w : World) (l : List RI) : Prop := ∀ x ∈ l, Row w 0 x.A x.c x.row
theorem RowsOf.below {w w' : World} {l : List RI} (h : RowsOf w l) (hb : Below w.heap.size w w') : RowsOf w' l := fun x hx => (h x hx).below hb
theorem RowsOf.sub {w : World} {l m : List RI} (h : RowsOf w l) (hs : ∀ x ∈ m, x ∈ l) : RowsOf w m := fun x hx => h x (hs x hx)
/-- Items that are read. -/
def ItAt (w : World) (A : Option Addr) (l : List RI) : Prop := (A = none → l = []) ∧ (∀ ad, A = some ad → ∀ j (h : j < l.length), w.cell? (ad.add (j * 2)) = some (.string l[j].key) ∧ w.cell? (ad.add (j * 2 + 1)) = some l[j].val) ∧ RowsOf w l
theorem ItAt.nil (w : World) : ItAt w none [] := ⟨fun _ => rfl, (fun ad e => by cases e), (fun x hx => by cases hx)⟩
theorem ItAt.below {w w' : World} {A : Option Addr} {l : List RI} (h : ItAt w A l) (hb : Below w.heap.size w w') : ItAt w' A l :=
  ⟨h.1, fun ad e j hj => ⟨below_cell hb (h.2.1 ad e j hj).1, below_cell hb (h.2.1 ad e j hj).2⟩, h.2.2.below hb⟩
theorem ItAt.at_ {w : World} {A : Option Addr} {l : List RI} (h : ItAt w A l) (k : Nat) (hk : k < l.length) : ∃ g o, A = some ⟨g, o, none⟩ ∧ w.cell? ⟨g, o + k * 2, none⟩ = some (.string l[k].key) ∧ w.cell? ⟨g, o + k * 2 + 1, none⟩ = some (.slice l[k].A l[k].row.length l[k].c) := by
  cases A with
  | none => have := h.1 rfl; subst this; simp at hk
  | some ad =>
    obtain ⟨h1, h2⟩ := h.2.1 ad rfl k hk
    obtain ⟨g, o, sp⟩ := ad
    have hs : sp = none := by
      have g1 := (h.2.1 _ rfl 0 (by omega)).1
      simpa [Addr.add] using World.cell?_spot g1
    subst hs
    rw [add_at] at h1 h2
    refine ⟨g, o, rfl, h1, ?_⟩
    unfold RI.val at h2
    simpa [Nat.add_assoc] using h2
/-- Items of the call's own. -/
def Its (w : World) (B : Nat) (A : Option Addr) (c : Nat) (l : List RI) : Prop := w.ownsRow B 91 2 (.slice A l.length c) l.length (itV l) ∧ RowsOf w l
theorem Its.nil (w : World) (B : Nat) : Its w B none 0 [] := ⟨World.ownsRow_nil _ _ _ _, (fun x hx => by cases hx)⟩
theorem Its.below {w w' : World} {B c : Nat} {A : Option Addr} {l : List RI} (h : Its w B A c l) (hb : Below w.heap.size w w') : Its w' B A c l := ⟨below_own hb h.1, h.2.below hb⟩
theorem Its.at_ {w : World} {B c : Nat} {A : Option Addr} {l : List RI} (h : Its w B A c l) : ItAt w A l := by
  refine ⟨fun e => ?_, fun ad e j hj => ?_, h.2⟩
  · rcases h.1.2 with ⟨_, h0⟩ | ⟨g, cap, cur, e', _⟩
    · exact List.eq_nil_of_length_eq_zero h0
    · rw [e] at e'; cases e'
  · rcases h.1.2 with ⟨e', _⟩ | ⟨g, cap, cur, e', _⟩
    · rw [e] at e'; cases e'
    · have e2 : ad = ⟨g, 0, none⟩ := by simpa [e] using (Value.slice.inj e').1
      subst e2
      obtain ⟨g1, g2⟩ := itV_get l j hj
      exact ⟨h.1.cells (g := g) (by rw [e']; rfl) (j * 2) _ g1, h.1.cells (g := g) (by rw [e']; rfl) (j * 2 + 1) _ g2⟩
theorem Its.cap {w : World} {B c : Nat} {A : Option Addr} {l : List RI} (h : Its w B A c l) : l.length ≤ c ∧ c ≤ maxLen := by
  rcases h.1.2 with ⟨e', h0⟩ | ⟨g, cap, cur, e', _, _, h1, h2, _⟩
  · have hc : c = 0 := (Value.slice.inj e').2.2
    exact ⟨by omega, by unfold maxLen; omega⟩
  · have hc : c = cap := (Value.slice.inj e').2.2
    subst hc
    exact ⟨h1, h2⟩
theorem Row.beside {w w' : World} {B B2 c n size t : Nat} {v : Value} {A : Option Addr} {l : List UInt8} {xs : List Value} (h : Row w B A c l) (hR : w.ownsRow B2 t size v n xs) (ht : t ≠ 5) (hg : w.grownBy w' v.ownBlock) : Row w' B A c l := by
  refine World.ownsRow.kept h hg ?_
  cases hA : (Value.slice A l.length c).ownBlock with
  | none => exact .inl rfl
  | some k =>
    refine .inr (fun e => ?_)
    obtain ⟨cur, h1⟩ := own_typ h hA
    obtain ⟨cur', h2⟩ := own_typ hR e.symm
    rw [h1] at h2
    simp at h2
    exact ht h2.2.symm
theorem infItem : (Tryd.prog.info? 91).map (fun i => (i.zero, i.size, i.bytes)) = some (some (.agg #[.string ⟨#[]⟩, .slice none 0 0]), 2, 40) := by kernel_rfl

/-- 'append' of one more item. -/
theorem wpList_appI {w : World} {ops : Array Oper} {rest : List Oper} {o : Oper} {a : Act} {Q : Exit → Act → World → Prop} (hgd : o.guard = none) (s x : Operand)
    (ho : o.op = .call { callee := .builtin .append, args := #[s, x], argTypes := #[56, 56] }) (B : Nat) (hB : B ≤ w.heap.size)
    (R : Option Addr) (c N : Nat) (l : List RI) (hs : a.eval s = .slice R N c) (hN : l.length = N) (hR : Its w B R c l) (g : Nat) (q : RI) (m : Nat) (hx : a.eval x = .slice (some ⟨g, 0, none⟩) 1 1) (hm : q.row.length = m) (hc0 : w.cell? ⟨g, 0, none⟩ = some (.string q.key)) (hc1 : w.cell? ⟨g, 1, none⟩ = some (.slice q.A m q.c)) (hq : Row w 0 q.A q.c q.row)
    (h47 : N ≤ 1000000000)
    (h : ∀ R' c' w', Its w' B R' c' (l ++ [q]) → Below B w w' → wpList Tryd.prog ops Q rest (a.put o.dst (.slice R' (N + 1) c')) w') : wpList Tryd.prog ops Q (o :: rest) a w := by
  subst hN hm
  obtain ⟨i0, hi, hz0, hz1, hz2⟩ := info_parts infItem
  refine wpList_append_own w hgd s x 56 ho B 91 i0 (.agg #[.string ⟨#[]⟩, .slice none 0 0]) 2 40 Tryd.underlying56 hi hz0 hz1 hz2 rfl (by decide) _ l.length (itV l) hs hR.1 ⟨g, 0, none⟩ 1 1 (itV [q]) hx rfl ?_ ?_ (by unfold maxLen; omega) (by omega) hB ?_
  · intro j u hj
    match j, hj with
    | 0, hj => simp [itV] at hj; subst hj; rw [add_plain]; exact hc0
    | 1, hj => simp [itV] at hj; subst hj; rw [add_plain]; exact hc1
    | j + 2, hj => simp [itV] at hj
  · intro u hu
    simp [itV] at hu
    rcases hu with rfl | rfl <;> rfl
  · intro v' w' k1 k2 k3
    have hform : ∃ A' c', v' = .slice A' (l.length + 1) c' := by
      rcases k1.2 with ⟨e, h0⟩ | ⟨g', cap', cur', e', _⟩
      · omega
      · exact ⟨_, _, e'⟩
    obtain ⟨A', c', rfl⟩ := hform
    refine h A' c' w' ⟨by rw [itV_append]; simpa using k1, fun y hy => ?_⟩ ((Below.refl B w).grown k2 hB (fun k hk => (hR.1.lt k hk).1))
    simp only [List.mem_append, List.mem_singleton] at hy
    rcases hy with hy | rfl
    · exact (hR.2 y hy).beside hR.1 (by decide) k2
    · exact hq.beside hR.1 (by decide) k2
/-- What a call answers that hands back items. -/
def GaveI (w : World) (L : List RI) (e : Ending) (w' : World) : Prop := ∃ A' c' n, e = .returned (.slice A' n c') ∧ L.length = n ∧ Its w' w.heap.size A' c' L ∧ Below w.heap.size w w'

/-! ### Del -/
theorem filter_next (l : List RI) (p : RI → Bool) (k : Nat) (h : k < l.length) : (l.take (k + 1)).filter p = if p l[k] then (l.take k).filter p ++ [l[k]] else (l.take k).filter p := by
  rw [List.take_add_one, List.getElem?_eq_getElem h, List.filter_append]
  by_cases hp : p l[k]
  · rw [if_pos hp]; simp [hp]
  · rw [if_neg hp]; simp [hp]
def delR (l : List RI) (k : ByteArray) : List RI := l.filter fun x => decide (x.key ≠ k)
set_option maxRecDepth 100000 in
set_option maxHeartbeats 6400000 in
theorem rdel_any {w : World} {A : Option Addr} {c n : Nat} {l : List RI} {k : ByteArray} (hn : l.length = n) (h : ItAt w A l) (hc : n ≤ c) (hb : n ≤ 1000000) :
    Calls Tryd.prog 50 #[.slice A n c, .string k] w (GaveI w (delR l k)) := by
  obtain ⟨S, hS⟩ : ∃ S, S = w.heap.size := ⟨_, rfl⟩
  have HS := hid hS
  have HH := hid h
  have HN := hid hn
  have I0 := Its.nil w S
  have B0 := Below.refl S w
  have s0 : S ≤ w.heap.size := by omega
  clear h hn hS
  go_enter Tryd.func50, Tryd.ntmps50
  go_wp2
  go_loopw [5, 6] (fun o i wr => ∃ (j m c' : Nat) (R : Option Addr) (L : List RI), j ≤ n ∧ i = .int .i64 j ∧ o = .slice R m c' ∧ L.length = m ∧ m ≤ j ∧ Hid (L = delR (l.take j) k) ∧ Its wr S R c' L ∧ S ≤ wr.heap.size ∧ Below S w wr) (fun _ i _ => n - (intOf i).toNat)
  case atStart => exact ⟨0, 0, 0, none, [], Nat.zero_le _, rfl, rfl, rfl, Nat.le_refl _, hid rfl, I0, s0, B0⟩
  case round =>
    clear I0 B0 s0
    obtain ⟨j, m, c', R, L, hj, rfl, rfl, hm, hmj, hL, hI, hs, hB⟩ := hrel
    have HM := hid hm
    have II := hid (And.intro hI hB)
    clear hm hI hB
    by_cases hlt : j < n
    · have t1 : decide ((j : Int) < (n : Int)) = true := by simp; omega
      have jl : j < l.length := by have := HN.out; omega
      have hat := HH.out.below (show Below w.heap.size w wr from HS.out ▸ II.out.2)
      obtain ⟨g, o, rfl, q0, q1⟩ := hat.at_ j jl
      obtain ⟨x, hx⟩ : ∃ x, x = l[j] := ⟨_, rfl⟩
      rw [← hx] at q0 q1
      have RX := hid (show Row wr 0 x.A x.c x.row from hat.2.2 x (by rw [hx]; exact List.getElem_mem jl))
      obtain ⟨xk, hxk⟩ : ∃ xk, xk = x.key := ⟨_, rfl⟩
      obtain ⟨xm, hxm⟩ : ∃ xm, xm = x.row.length := ⟨_, rfl⟩
      rw [← hxk] at q0
      rw [← hxm] at q1
      have HX := hid (And.intro hx (And.intro hxk hxm))
      clear hat hx hxk hxm
      by_cases hk : xk = k
      · have t2 : (xk.toList == k.toList) = true := by rw [hk]; simp
        have NX := hid (show L = delR (l.take (j + 1)) k by
          have jl : j < l.length := by have := HN.out; omega
          have e := filter_next l (fun x => decide (x.key ≠ k)) j jl
          have hk' : l[j].key = k := by rw [← HX.out.1, ← HX.out.2.1, hk]
          rw [if_neg (by simp [hk'])] at e
          rw [hL.out]
          exact e.symm)
        have t1' : decide (j < n) = true := by simp; omega
        have hmj' : m ≤ j + 1 := by omega
        clear hk hL
        go_wp2
        go_roundw
        case rel => exact ⟨j + 1, m, c', R, L, hlt, by go_num, rfl, HM.out, hmj', NX, II.out.1, hs, II.out.2⟩
        case measure => simp [intOf]; omega
      · have t2 : (xk.toList == k.toList) = false := by rw [str_beq]; simp [hk]
        have NX := hid (show L ++ [x] = delR (l.take (j + 1)) k by
          have jl : j < l.length := by have := HN.out; omega
          have e := filter_next l (fun x => decide (x.key ≠ k)) j jl
          have hk' : ¬ l[j].key = k := by rw [← HX.out.1, ← HX.out.2.1]; exact hk
          rw [if_pos (by simp [hk'])] at e
          rw [hL.out, HX.out.1]
          exact e.symm)
        have t1' : decide (j < n) = true := by simp; omega
        clear hk hL
        go_wp2_with (refine wpList_appI rfl (.tmp 20) (.tmp 25) rfl S (Nat.le_trans hs (below_alloc (Below.refl _ wr) (.cells #[.string xk, .slice x.A xm x.c] 91)).size) R c' m L rfl HM.out (II.out.1.below (below_alloc (Below.refl _ wr) _)) wr.heap.size x xm rfl HX.out.2.2.symm (by rw [← HX.out.2.1]; exact cell_at (heap_alloc_new _ _) rfl) (cell_at (heap_alloc_new _ _) rfl) (RX.out.below (below_alloc (Below.refl _ wr) _)) (by omega) ?_)
        intro R2 c2 w2 i2 b2
        have HI2 := hid i2
        have B2 : Below S w w2 := II.out.2.trans (((Below.refl S wr).alloc hs _).trans b2)
        have s2 : S ≤ w2.heap.size := Nat.le_trans hs (Nat.le_trans (below_alloc (Below.refl _ wr) (.cells #[.string xk, .slice x.A xm x.c] 91)).size b2.size)
        have HM2 := hid (show (L ++ [x]).length = m + 1 by rw [List.length_append, List.length_singleton, HM.out])
        have hmj' : m + 1 ≤ j + 1 := by omega
        clear i2 b2 q0 q1
        go_wp2
        go_roundw
        case rel => exact ⟨j + 1, m + 1, c2, R2, L ++ [x], hlt, by go_num, rfl, HM2.out, hmj', NX, HI2.out, s2, B2⟩
        case measure => simp [intOf]; omega
    · obtain rfl : n = j := by omega
      have t1 : decide ((n : Int) < (n : Int)) = false := by simp
      have E := hid (show L = delR l k by rw [hL.out, List.take_of_length_le (Nat.le_of_eq HN.out)])
      clear hL
      go_wp2
      go_ret
      refine ⟨R, c', m, rfl, ?_, ?_, ?_⟩
      · rw [← E.out]; exact HM.out
      · rw [← E.out, ← HS.out]; exact II.out.1
      · rw [← HS.out]; exact II.out.2
end Go.Proofs.YtmbgfjcmdolggaaDoor
