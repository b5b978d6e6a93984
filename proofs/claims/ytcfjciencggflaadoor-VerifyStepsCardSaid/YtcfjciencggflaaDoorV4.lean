import Derived.Test.YtcfjciencggflaaDoorV3
import Derived.Test.YtcfjciencggflaaDoorTxt
import Derived.Laws.Cover1
set_option linter.unusedVariables false
set_option linter.unusedSimpArgs false
/- The reference's items in memory; append of one more. -/
namespace Go.Proofs.YtcfjciencggflaaDoor
open Go.RowKit PrintLast

/-- An item, and where its row lies. -/
structure RI where
  key : ByteArray
  A : Option Addr
  c : Nat
  row : List UInt8
def RI.itm (x : RI) : Itm := ⟨x.key, x.row⟩
def RI.val (x : RI) : Value := .slice x.A x.row.length x.c
def itV : List RI → List Value
  | [] => []
  | x :: l => .string x.key :: x.val :: itV l
theorem itV_length (l : List RI) : (itV l).length = l.length * 2 := by
  induction l with
  | nil => rfl
  | cons x l ih => simp [itV, ih]; omega
theorem itV_append (l m : List RI) : itV (l ++ m) = itV l ++ itV m := by
  induction l with
  | nil => rfl
  | cons x l ih => simp [itV, ih]
theorem itV_get (l : List RI) : ∀ (j : Nat) (h : j < l.length), (itV l)[j * 2]? = some (.string l[j].key) ∧ (itV l)[j * 2 + 1]? = some l[j].val := by
  induction l with
  | nil => intro j h; simp at h
  | cons x l ih =>
    intro j h
    cases j with
    | zero => exact ⟨rfl, rfl⟩
    | succ j =>
      have := ih j (by simpa using h)
      rw [show (j + 1) * 2 = j * 2 + 1 + 1 by omega]
      exact this
def RowsOf (w : World) (l : List RI) : Prop := ∀ x ∈ l, Row w 0 x.A x.c x.row
theorem RowsOf.below {w w' : World} {l : List RI} (h : RowsOf w l) (hb : Below w.heap.size w w') : RowsOf w' l := fun x hx => (h x hx).below hb
theorem RowsOf.sub {w : World} {l m : List RI} (h : RowsOf w l) (hs : ∀ x ∈ m, x ∈ l) : RowsOf w m := fun x hx => h x (hs x hx)
/-- Items that are read. -/
def ItAt (w : World) (A : Option Addr) (l : List RI) : Prop := (A = none → l = []) ∧ (∀ ad, A = some ad → ∀ j (h : j < l.length), w.cell? (ad.add (j * 2)) = some (.string l[j].key) ∧ w.cell? (ad.add (j * 2 + 1)) = some l[j].val) ∧ RowsOf w l
theorem ItAt.nil (w : World) : ItAt w none [] := ⟨fun _ => rfl, (fun ad e => by cases e), (fun x hx => by cases hx)⟩
theorem ItAt.below {w w' : World} {A : Option Addr} {l : List RI} (h : ItAt w A l) (hb : Below w.heap.size w w') : ItAt w' A l :=
  ⟨h.1, fun ad e j hj => ⟨below_cell hb (h.2.1 ad e j hj).1, below_cell hb (h.2.1 ad e j hj).2⟩, h.2.2.below hb⟩
theorem ItAt.at_ {w : World} {A : Option Addr} {l : List RI} (h : ItAt w A l) (k : Nat) (hk : k < l.length) : ∃ g o, A = some ⟨g, o, none⟩ ∧ w.cell? ⟨g, o + k * 2, none⟩ = some (.string l[k].key) ∧ w.cell? ⟨g, o + k * 2 + 1, none⟩ = some (.slice l[k].A l[k].row.length l[k].c) := by
  cases A with
  | none => have := h.1 rfl; subst this; simp at hk
  | some ad =>
    obtain ⟨h1, h2⟩ := h.2.1 ad rfl k hk
    obtain ⟨g, o, sp⟩ := ad
    have hs : sp = none := by
      have g1 := (h.2.1 _ rfl 0 (by omega)).1
      simpa [Addr.add] using World.cell?_spot g1
    subst hs
    rw [add_at] at h1 h2
    refine ⟨g, o, rfl, h1, ?_⟩
    unfold RI.val at h2
    simpa [Nat.add_assoc] using h2
/-- Items of the call's own. -/
def Its (w : World) (B : Nat) (A : Option Addr) (c : Nat) (l : List RI) : Prop := w.ownsRow B 102 2 (.slice A l.length c) l.length (itV l) ∧ RowsOf w l
theorem Its.nil (w : World) (B : Nat) : Its w B none 0 [] := ⟨World.ownsRow_nil _ _ _ _, (fun x hx => by cases hx)⟩
theorem Its.below {w w' : World} {B c : Nat} {A : Option Addr} {l : List RI} (h : Its w B A c l) (hb : Below w.heap.size w w') : Its w' B A c l := ⟨below_own hb h.1, h.2.below hb⟩
theorem Its.at_ {w : World} {B c : Nat} {A : Option Addr} {l : List RI} (h : Its w B A c l) : ItAt w A l := by
  refine ⟨fun e => ?_, fun ad e j hj => ?_, h.2⟩
  · rcases h.1.2 with ⟨_, h0⟩ | ⟨g, cap, cur, e', _⟩
    · exact List.eq_nil_of_length_eq_zero h0
    · rw [e] at e'; cases e'
  · rcases h.1.2 with ⟨e', _⟩ | ⟨g, cap, cur, e', _⟩
    · rw [e] at e'; cases e'
    · have e2 : ad = ⟨g, 0, none⟩ := by simpa [e] using (Value.slice.inj e').1
      subst e2
      obtain ⟨g1, g2⟩ := itV_get l j hj
      exact ⟨h.1.cells (g := g) (by rw [e']; rfl) (j * 2) _ g1, h.1.cells (g := g) (by rw [e']; rfl) (j * 2 + 1) _ g2⟩
theorem Its.cap {w : World} {B c : Nat} {A : Option Addr} {l : List RI} (h : Its w B A c l) : l.length ≤ c ∧ c ≤ maxLen := by
  rcases h.1.2 with ⟨e', h0⟩ | ⟨g, cap, cur, e', _, _, h1, h2, _⟩
  · have hc : c = 0 := (Value.slice.inj e').2.2
    exact ⟨by omega, by unfold maxLen; omega⟩
  · have hc : c = cap := (Value.slice.inj e').2.2
    subst hc
    exact ⟨h1, h2⟩
theorem Row.beside {w w' : World} {B B2 c n size t : Nat} {v : Value} {A : Option Addr} {l : List UInt8} {xs : List Value} (h : Row w B A c l) (hR : w.ownsRow B2 t size v n xs) (ht : t ≠ 5) (hg : w.grownBy w' v.ownBlock) : Row w' B A c l := by
  refine World.ownsRow.kept h hg ?_
  cases hA : (Value.slice A l.length c).ownBlock with
  | none => exact .inl rfl
  | some k =>
    refine .inr (fun e => ?_)
    obtain ⟨cur, h1⟩ := own_typ h hA
    obtain ⟨cur', h2⟩ := own_typ hR e.symm
    rw [h1] at h2
    simp at h2
    exact ht h2.2.symm
theorem infItem : (Tryd.prog.info? 102).map (fun i => (i.zero, i.size, i.bytes)) = some (some (.agg #[.string ⟨#[]⟩, .slice none 0 0]), 2, 40) := by kernel_rfl

/-- 'append' of one more item. -/
theorem wpList_appI {w : World} {ops : Array Oper} {rest : List Oper} {o : Oper} {a : Act} {Q : Exit → Act → World → Prop} (hgd : o.guard = none) (s x : Operand)
    (ho : o.op = .call { callee := .builtin .append, args := #[s, x], argTypes := #[74, 74] }) (B : Nat) (hB : B ≤ w.heap.size)
    (R : Option Addr) (c N : Nat) (l : List RI) (hs : a.eval s = .slice R N c) (hN : l.length = N) (hR : Its w B R c l) (g : Nat) (q : RI) (m : Nat) (hx : a.eval x = .slice (some ⟨g, 0, none⟩) 1 1) (hm : q.row.length = m) (hc0 : w.cell? ⟨g, 0, none⟩ = some (.string q.key)) (hc1 : w.cell? ⟨g, 1, none⟩ = some (.slice q.A m q.c)) (hq : Row w 0 q.A q.c q.row)
    (h47 : N ≤ 1000000000)
    (h : ∀ R' c' w', Its w' B R' c' (l ++ [q]) → Below B w w' → wpList Tryd.prog ops Q rest (a.put o.dst (.slice R' (N + 1) c')) w') : wpList Tryd.prog ops Q (o :: rest) a w := by
  subst hN hm
  obtain ⟨i0, hi, hz0, hz1, hz2⟩ := info_parts infItem
  refine wpList_append_own w hgd s x 74 ho B 102 i0 (.agg #[.string ⟨#[]⟩, .slice none 0 0]) 2 40 Tryd.underlying74 hi hz0 hz1 hz2 rfl (by decide) _ l.length (itV l) hs hR.1 ⟨g, 0, none⟩ 1 1 (itV [q]) hx rfl ?_ ?_ (by unfold maxLen; omega) (by omega) hB ?_
  · intro j u hj
    match j, hj with
    | 0, hj => simp [itV] at hj; subst hj; rw [add_plain]; exact hc0
    | 1, hj => simp [itV] at hj; subst hj; rw [add_plain]; exact hc1
    | j + 2, hj => simp [itV] at hj
  · intro u hu
    simp [itV] at hu
    rcases hu with rfl | rfl <;> rfl
  · intro v' w' k1 k2 k3
    have hform : ∃ A' c', v' = .slice A' (l.length + 1) c' := by
      rcases k1.2 with ⟨e, h0⟩ | ⟨g', cap', cur', e', _⟩
      · omega
      · exact ⟨_, _, e'⟩
    obtain ⟨A', c', rfl⟩ := hform
    refine h A' c' w' ⟨by rw [itV_append]; simpa using k1, fun y hy => ?_⟩ ((Below.refl B w).grown k2 hB (fun k hk => (hR.1.lt k hk).1))
    simp only [List.mem_append, List.mem_singleton] at hy
    rcases hy with hy | rfl
    · exact (hR.2 y hy).beside hR.1 (by decide) k2
    · exact hq.beside hR.1 (by decide) k2
/-- What a call answers that hands back items. -/
def GaveI (w : World) (L : List RI) (e : Ending) (w' : World) : Prop := ∃ A' c' n, e = .returned (.slice A' n c') ∧ L.length = n ∧ Its w' w.heap.size A' c' L ∧ Below w.heap.size w w'

/-! ### Del -/
theorem filter_next (l : List RI) (p : RI → Bool) (k : Nat) (h : k < l.length) : (l.take (k + 1)).filter p = if p l[k] then (l.take k).filter p ++ [l[k]] else (l.take k).filter p := by
  rw [List.take_add_one, List.getElem?_eq_getElem h, List.filter_append]
  by_cases hp : p l[k]
  · rw [if_pos hp]; simp [hp]
  · rw [if_neg hp]; simp [hp]
def delR (l : List RI) (k : ByteArray) : List RI := l.filter fun x => decide (x.key ≠ k)
set_option maxRecDepth 100000 in
set_option maxHeartbeats 6400000 in
theorem rdel_any {w : World} {A : Option Addr} {c n : Nat} {l : List RI} {k : ByteArray} (hn : l.length = n) (h : ItAt w A l) (hc : n ≤ c) (hb : n ≤ 1000000) :
    Calls Tryd.prog 56 #[.slice A n c, .string k] w (GaveI w (delR l k)) := by
  obtain ⟨S, hS⟩ : ∃ S, S = w.heap.size := ⟨_, rfl⟩
  have HS := hid hS
  have HH := hid h
  have HN := hid hn
  have I0 := Its.nil w S
  have B0 := Below.refl S w
  have s0 : S ≤ w.heap.size := by omega
  clear h hn hS
  go_enter Tryd.func56, Tryd.ntmps56
  go_wp2
  go_loopw [5, 6] (fun o i wr => ∃ (j m c' : Nat) (R : Option Addr) (L : List RI), j ≤ n ∧ i = .int .i64 j ∧ o = .slice R m c' ∧ L.length = m ∧ m ≤ j ∧ Hid (L = delR (l.take j) k) ∧ Its wr S R c' L ∧ S ≤ wr.heap.size ∧ Below S w wr) (fun _ i _ => n - (intOf i).toNat)
  case atStart => exact ⟨0, 0, 0, none, [], Nat.zero_le _, rfl, rfl, rfl, Nat.le_refl _, hid rfl, I0, s0, B0⟩
  case round =>
    clear I0 B0 s0
    obtain ⟨j, m, c', R, L, hj, rfl, rfl, hm, hmj, hL, hI, hs, hB⟩ := hrel
    have HM := hid hm
    have II := hid (And.intro hI hB)
    clear hm hI hB
    by_cases hlt : j < n
    · have t1 : decide ((j : Int) < (n : Int)) = true := by simp; omega
      have jl : j < l.length := by have := HN.out; omega
      have hat := HH.out.below (show Below w.heap.size w wr from HS.out ▸ II.out.2)
      obtain ⟨g, o, rfl, q0, q1⟩ := hat.at_ j jl
      obtain ⟨x, hx⟩ : ∃ x, x = l[j] := ⟨_, rfl⟩
      rw [← hx] at q0 q1
      have RX := hid (show Row wr 0 x.A x.c x.row from hat.2.2 x (by rw [hx]; exact List.getElem_mem jl))
      obtain ⟨xk, hxk⟩ : ∃ xk, xk = x.key := ⟨_, rfl⟩
      obtain ⟨xm, hxm⟩ : ∃ xm, xm = x.row.length := ⟨_, rfl⟩
      rw [← hxk] at q0
      rw [← hxm] at q1
      have HX := hid (And.intro hx (And.intro hxk hxm))
      clear hat hx hxk hxm
      by_cases hk : xk = k
      · have t2 : (xk.toList == k.toList) = true := by rw [hk]; simp
        have NX := hid (show L = delR (l.take (j + 1)) k by
          have jl : j < l.length := by have := HN.out; omega
          have e := filter_next l (fun x => decide (x.key ≠ k)) j jl
          have hk' : l[j].key = k := by rw [← HX.out.1, ← HX.out.2.1, hk]
          rw [if_neg (by simp [hk'])] at e
          rw [hL.out]
          exact e.symm)
        have t1' : decide (j < n) = true := by simp; omega
        have hmj' : m ≤ j + 1 := by omega
        clear hk hL
        go_wp2
        go_roundw
        case rel => exact ⟨j + 1, m, c', R, L, hlt, by go_num, rfl, HM.out, hmj', NX, II.out.1, hs, II.out.2⟩
        case measure => simp [intOf]; omega
      · have t2 : (xk.toList == k.toList) = false := by rw [str_beq]; simp [hk]
        have NX := hid (show L ++ [x] = delR (l.take (j + 1)) k by
          have jl : j < l.length := by have := HN.out; omega
          have e := filter_next l (fun x => decide (x.key ≠ k)) j jl
          have hk' : ¬ l[j].key = k := by rw [← HX.out.1, ← HX.out.2.1]; exact hk
          rw [if_pos (by simp [hk'])] at e
          rw [hL.out, HX.out.1]
          exact e.symm)
        have t1' : decide (j < n) = true := by simp; omega
        clear hk hL
        go_wp2_with (refine wpList_appI rfl (.tmp 20) (.tmp 25) rfl S (Nat.le_trans hs (below_alloc (Below.refl _ wr) (.cells #[.string xk, .slice x.A xm x.c] 102)).size) R c' m L rfl HM.out (II.out.1.below (below_alloc (Below.refl _ wr) _)) wr.heap.size x xm rfl HX.out.2.2.symm (by rw [← HX.out.2.1]; exact cell_at (heap_alloc_new _ _) rfl) (cell_at (heap_alloc_new _ _) rfl) (RX.out.below (below_alloc (Below.refl _ wr) _)) (by omega) ?_)
        intro R2 c2 w2 i2 b2
        have HI2 := hid i2
        have B2 : Below S w w2 := II.out.2.trans (((Below.refl S wr).alloc hs _).trans b2)
        have s2 : S ≤ w2.heap.size := Nat.le_trans hs (Nat.le_trans (below_alloc (Below.refl _ wr) (.cells #[.string xk, .slice x.A xm x.c] 102)).size b2.size)
        have HM2 := hid (show (L ++ [x]).length = m + 1 by rw [List.length_append, List.length_singleton, HM.out])
        have hmj' : m + 1 ≤ j + 1 := by omega
        clear i2 b2 q0 q1
        go_wp2
        go_roundw
        case rel => exact ⟨j + 1, m + 1, c2, R2, L ++ [x], hlt, by go_num, rfl, HM2.out, hmj', NX, HI2.out, s2, B2⟩
        case measure => simp [intOf]; omega
    · obtain rfl : n = j := by omega
      have t1 : decide ((n : Int) < (n : Int)) = false := by simp
      have E := hid (show L = delR l k by rw [hL.out, List.take_of_length_le (Nat.le_of_eq HN.out)])
      clear hL
      go_wp2
      go_ret
      refine ⟨R, c', m, rfl, ?_, ?_, ?_⟩
      · rw [← E.out]; exact HM.out
      · rw [← E.out, ← HS.out]; exact II.out.1
      · rw [← HS.out]; exact II.out.2
end Go.Proofs.YtcfjciencggflaaDoor

/- The reference's Put and Half. -/
namespace Go.Proofs.YtcfjciencggflaaDoor
open Go.RowKit PrintLast

theorem copy_gave {w : World} {A : Option Addr} {c m : Nat} {row : List UInt8} (hm : row.length = m) (hr : BSA w A c row) (hb : m ≤ 1000000) :
    Calls Tryd.prog 23 #[.slice A m c, .slice none 0 0] w fun e w' => ∃ A' c', e = .returned (.slice A' m c') ∧ Row w' 0 A' c' row ∧ Below w.heap.size w w' := by
  refine (join_gave hm rfl (List.append_nil row) hr (BSA.nil w) (by omega)).mono ?_
  rintro e w' ⟨A', c', rfl, h1, h2⟩
  exact ⟨A', c', by rw [hm], h1.lower (Nat.zero_le _), h2⟩
/-- What Put has so far: has it laid the new one? -/
def PutS (d : Bool) (l L : List RI) (x : Itm) : Prop := (L.map RI.itm).Perm (cond d (putI (l.map RI.itm) x) (delI (l.map RI.itm) x.key))
theorem put_nought (x : Itm) : PutS false [] [] x := List.Perm.refl _
theorem put_begin {l L : List RI} {x : Itm} {q : RI} (h : PutS false l L x) (hq : q.itm = x) : PutS true l (L ++ [q]) x := by
  unfold PutS at h ⊢
  simp only [cond] at h ⊢
  rw [List.map_append, List.map_cons, List.map_nil, hq]
  exact (List.perm_append_comm (l₁ := L.map RI.itm) (l₂ := [x])).trans (List.Perm.cons x h)
theorem take_map {l : List RI} {k : Nat} (hk : k < l.length) : (l.take (k + 1)).map RI.itm = (l.take k).map RI.itm ++ [l[k].itm] := by
  rw [List.take_add_one, List.getElem?_eq_getElem hk, List.map_append]; rfl
theorem put_skip {l L : List RI} {x : Itm} {k : Nat} {d : Bool} (hk : k < l.length) (he : l[k].key = x.key) (h : PutS d (l.take k) L x) : PutS d (l.take (k + 1)) L x := by
  unfold PutS at h ⊢
  rw [take_map hk]
  have e : delI ((l.take k).map RI.itm ++ [l[k].itm]) x.key = delI ((l.take k).map RI.itm) x.key := by
    unfold delI
    rw [List.filter_append]
    have : ([l[k].itm].filter fun y => decide (y.key ≠ x.key)) = [] := by
      rw [List.filter_cons, if_neg (by simp; exact he)]; rfl
    rw [this, List.append_nil]
  cases d with
  | false => simp only [cond] at h ⊢; rw [e]; exact h
  | true =>
    simp only [cond] at h ⊢
    unfold putI at h ⊢
    exact h.trans (List.Perm.of_eq (congrArg (x :: ·) e.symm))
theorem put_next {l L : List RI} {x : Itm} {k : Nat} {d : Bool} (hk : k < l.length) (he : ¬ l[k].key = x.key) (h : PutS d (l.take k) L x) : PutS d (l.take (k + 1)) (L ++ [l[k]]) x := by
  unfold PutS at h ⊢
  rw [take_map hk, List.map_append, List.map_cons, List.map_nil]
  have e : delI ((l.take k).map RI.itm ++ [l[k].itm]) x.key = delI ((l.take k).map RI.itm) x.key ++ [l[k].itm] := by
    unfold delI
    rw [List.filter_append]
    have : ([l[k].itm].filter fun y => decide (y.key ≠ x.key)) = [l[k].itm] := by
      rw [List.filter_cons, if_pos (by simp; exact he)]; rfl
    rw [this]
  cases d with
  | false => simp only [cond] at h ⊢; rw [e]; exact h.append_right _
  | true =>
    simp only [cond] at h ⊢
    unfold putI at h ⊢
    exact (h.append_right [l[k].itm]).trans (List.Perm.of_eq (congrArg (x :: ·) e.symm))
theorem put_len {l L : List RI} {x : Itm} {d : Bool} {j : Nat} (h : PutS d (l.take j) L x) : L.length ≤ j + 1 := by
  have h1 := h.length_eq
  rw [List.length_map] at h1
  have h2 := putI_length ((l.take j).map RI.itm) x
  have h3 := delI_length ((l.take j).map RI.itm) x.key
  have h4 : (l.take j).length ≤ j := List.length_take_le j l
  rw [List.length_map] at h2 h3
  cases d with
  | false => simp only [cond] at h1; omega
  | true => simp only [cond] at h1; omega

set_option maxRecDepth 100000 in
set_option maxHeartbeats 12800000 in
theorem rput_any {w : World} {A RA : Option Addr} {c n rc rm : Nat} {l : List RI} {key : ByteArray} {row : List UInt8} (hn : l.length = n) (h : ItAt w A l) (hc : n ≤ c) (hb : n ≤ 1000000) (hm : row.length = rm) (hr : BSA w RA rc row) (hmb : rm ≤ 1000000) :
    Calls Tryd.prog 58 #[.slice A n c, .string key, .slice RA rm rc] w fun e w' => ∃ L, Hid ((L.map RI.itm).Perm (putI (l.map RI.itm) ⟨key, row⟩)) ∧ GaveI w L e w' := by
  obtain ⟨S, hS⟩ : ∃ S, S = w.heap.size := ⟨_, rfl⟩
  have HS := hid hS
  have HH := hid h
  have HN := hid hn
  have HRm := hid hm
  have HR := hid hr
  have I0 := Its.nil w S
  have B0 := Below.refl S w
  have s0 : S ≤ w.heap.size := by omega
  have PS0 := hid (put_nought ⟨key, row⟩)
  clear h hn hS hm hr
  go_enter Tryd.func58, Tryd.ntmps58
  go_wp2
  go_loopw [7, 8, 9] (fun ov dv i wr => ∃ (j m c' : Nat) (R : Option Addr) (L : List RI) (d : Bool), j ≤ n ∧ i = .int .i64 j ∧ ov = .slice R m c' ∧ dv = .bool d ∧ L.length = m ∧ Hid (PutS d (l.take j) L ⟨key, row⟩) ∧ Its wr S R c' L ∧ S ≤ wr.heap.size ∧ Below S w wr) (fun _ _ i _ => n - (intOf i).toNat)
  case atStart => exact ⟨0, 0, 0, none, [], false, Nat.zero_le _, rfl, rfl, rfl, rfl, PS0, I0, s0, B0⟩
  case round =>
    clear I0 B0 s0 PS0
    obtain ⟨j, m, c', R, L, d, hj, rfl, rfl, rfl, hm, PS, hI, hs, hB⟩ := hrel
    have hmj : m ≤ j + 1 := by have := put_len PS.out; omega
    have HM := hid hm
    have II := hid (And.intro hI hB)
    clear hm hI hB
    by_cases hlt : j < n
    · have t1 : decide ((j : Int) < (n : Int)) = true := by simp; omega
      have t1' : decide (j < n) = true := by simp; omega
      have jl : j < l.length := by have := HN.out; omega
      have hat := HH.out.below (show Below w.heap.size w wr from HS.out ▸ II.out.2)
      obtain ⟨g, o, rfl, q0, q1⟩ := hat.at_ j jl
      obtain ⟨x, hx⟩ : ∃ x, x = l[j] := ⟨_, rfl⟩
      rw [← hx] at q0 q1
      have RX := hid (show Row wr 0 x.A x.c x.row from hat.2.2 x (by rw [hx]; exact List.getElem_mem jl))
      obtain ⟨xk, hxk⟩ : ∃ xk, xk = x.key := ⟨_, rfl⟩
      obtain ⟨xm, hxm⟩ : ∃ xm, xm = x.row.length := ⟨_, rfl⟩
      rw [← hxk] at q0
      rw [← hxm] at q1
      have HX := hid (And.intro hx (And.intro hxk hxm))
      clear hat hx hxk hxm
      cases d with
      | true =>
        by_cases hk : xk = key
        · have t2 : (xk.toList == key.toList) = true := by rw [hk]; simp
          have NX := hid (put_skip (by have := HN.out; omega) (by rw [← HX.out.1, ← HX.out.2.1, hk]) PS.out)
          clear hk PS
          go_wp2
          go_roundw
          case rel => exact ⟨j + 1, m, c', R, L, true, hlt, by go_num, rfl, rfl, HM.out, NX, II.out.1, hs, II.out.2⟩
          case measure => simp [intOf]; omega
        · have t2 : (xk.toList == key.toList) = false := by rw [str_beq]; simp [hk]
          have NX0 := put_next (by have := HN.out; omega) (by rw [← HX.out.1, ← HX.out.2.1]; exact hk) PS.out
          rw [← HX.out.1] at NX0
          have NX := hid NX0
          clear hk PS NX0
          go_wp2_with (refine wpList_appI rfl (.tmp 41) (.tmp 46) rfl S (Nat.le_trans hs (below_alloc (Below.refl _ wr) (.cells #[.string xk, .slice x.A xm x.c] 102)).size) R c' (m) L rfl HM.out (II.out.1.below (below_alloc (Below.refl _ wr) _)) wr.heap.size x xm rfl HX.out.2.2.symm (by rw [← HX.out.2.1]; exact cell_at (heap_alloc_new _ _) rfl) (cell_at (heap_alloc_new _ _) rfl) (RX.out.below (below_alloc (Below.refl _ wr) _)) (by omega) ?_)
          intro R2 c2 w2 i2 b2
          have HI2 := hid i2
          have B2 : Below S w w2 := II.out.2.trans (((Below.refl S wr).alloc hs _).trans b2)
          have s2 : S ≤ w2.heap.size := Nat.le_trans hs (Nat.le_trans (below_alloc (Below.refl _ wr) (.cells #[.string xk, .slice x.A xm x.c] 102)).size b2.size)
          have HM2 := hid (show (L ++ [x]).length = m + 1 by rw [List.length_append, List.length_singleton, HM.out])
          clear i2 b2 q0 q1
          go_wp2
          go_roundw
          case rel => exact ⟨j + 1, m + 1, c2, R2, L ++ [x], true, hlt, by go_num, rfl, rfl, HM2.out, NX, HI2.out, s2, B2⟩
          case measure => simp [intOf]; omega
      | false =>
        cases hge : Op.bytesLess xk.toList key.toList with
        | true =>
          by_cases hk : xk = key
          · have t2 : (xk.toList == key.toList) = true := by rw [hk]; simp
            have NX := hid (put_skip (by have := HN.out; omega) (by rw [← HX.out.1, ← HX.out.2.1, hk]) PS.out)
            clear hk PS
            go_wp2
            go_roundw
            case rel => exact ⟨j + 1, m, c', R, L, false, hlt, by go_num, rfl, rfl, HM.out, NX, II.out.1, hs, II.out.2⟩
            case measure => simp [intOf]; omega
          · have t2 : (xk.toList == key.toList) = false := by rw [str_beq]; simp [hk]
            have NX0 := put_next (by have := HN.out; omega) (by rw [← HX.out.1, ← HX.out.2.1]; exact hk) PS.out
            rw [← HX.out.1] at NX0
            have NX := hid NX0
            clear hk PS NX0
            go_wp2_with (refine wpList_appI rfl (.tmp 41) (.tmp 46) rfl S (Nat.le_trans hs (below_alloc (Below.refl _ wr) (.cells #[.string xk, .slice x.A xm x.c] 102)).size) R c' (m) L rfl HM.out (II.out.1.below (below_alloc (Below.refl _ wr) _)) wr.heap.size x xm rfl HX.out.2.2.symm (by rw [← HX.out.2.1]; exact cell_at (heap_alloc_new _ _) rfl) (cell_at (heap_alloc_new _ _) rfl) (RX.out.below (below_alloc (Below.refl _ wr) _)) (by omega) ?_)
            intro R2 c2 w2 i2 b2
            have HI2 := hid i2
            have B2 : Below S w w2 := II.out.2.trans (((Below.refl S wr).alloc hs _).trans b2)
            have s2 : S ≤ w2.heap.size := Nat.le_trans hs (Nat.le_trans (below_alloc (Below.refl _ wr) (.cells #[.string xk, .slice x.A xm x.c] 102)).size b2.size)
            have HM2 := hid (show (L ++ [x]).length = m + 1 by rw [List.length_append, List.length_singleton, HM.out])
            clear i2 b2 q0 q1
            go_wp2
            go_roundw
            case rel => exact ⟨j + 1, m + 1, c2, R2, L ++ [x], false, hlt, by go_num, rfl, rfl, HM2.out, NX, HI2.out, s2, B2⟩
            case measure => simp [intOf]; omega
        | false =>
          have JN := hid (copy_gave HRm.out (HR.out.below (show Below w.heap.size w wr from HS.out ▸ II.out.2)) hmb)
          go_wp2_with fail
          refine JN.out.mono ?_
          rintro e w1 ⟨QA, qc, rfl, qr, b1⟩
          clear JN
          have al := below_alloc (Below.refl _ w1) (.cells #[.string key, .slice QA rm qc] 102)
          have QR := hid (qr.below al)
          have I1 := hid ((II.out.1.below b1).below al)
          have s1 : S ≤ (w1.alloc (.cells #[.string key, .slice QA rm qc] 102)).heap.size := Nat.le_trans hs (Nat.le_trans b1.size al.size)
          have B1 := hid ((II.out.2.trans (b1.mono hs)).trans (al.mono (Nat.le_trans hs b1.size)))
          replace q0 := below_cell al (below_cell b1 q0)
          replace q1 := below_cell al (below_cell b1 q1)
          replace RX := hid ((RX.out.below b1).below al)
          clear II
          have Q0 := hid q0
          have Q1 := hid q1
          clear qr b1 al q0 q1
          go_wp2_with (refine wpList_appI rfl (.tmp 27) (.tmp 32) rfl S s1 R c' m L rfl HM.out I1.out w1.heap.size ⟨key, QA, qc, row⟩ rm rfl HRm.out (cell_at (heap_alloc_new _ _) rfl) (cell_at (heap_alloc_new _ _) rfl) QR.out (by omega) ?_)
          intro R3 c3 w3 i3 b3
          have II := hid (And.intro i3 (B1.out.trans b3))
          have hs3 : S ≤ w3.heap.size := Nat.le_trans s1 b3.size
          replace PS := hid (put_begin (q := ⟨key, QA, qc, row⟩) PS.out rfl)
          replace HM := hid (show (L ++ [(⟨key, QA, qc, row⟩ : RI)]).length = m + 1 by rw [List.length_append, List.length_singleton, HM.out])
          have hat := HH.out.below (show Below w.heap.size w w3 from HS.out ▸ II.out.2)
          obtain ⟨g', o', e', q0, q1⟩ := hat.at_ j jl
          cases e'
          rw [← HX.out.1] at q0 q1
          rw [← HX.out.2.1] at q0
          rw [← HX.out.2.2] at q1
          replace RX := hid (show Row w3 0 x.A x.c x.row from hat.2.2 x (by rw [HX.out.1]; exact List.getElem_mem jl))
          generalize L ++ [(⟨key, QA, qc, row⟩ : RI)] = L3 at *
          have hmj3 : m + 1 ≤ j + 1 := by have := put_len PS.out; have := HM.out; omega
          clear i3 b3 B1 I1 QR s1 hs Q0 Q1 hat hmj
          by_cases hk : xk = key
          · have t2 : (xk.toList == key.toList) = true := by rw [hk]; simp
            have NX := hid (put_skip (by have := HN.out; omega) (by rw [← HX.out.1, ← HX.out.2.1, hk]) PS.out)
            clear hk PS
            go_wp2
            go_roundw
            case rel => exact ⟨j + 1, m + 1, c3, R3, L3, true, hlt, by go_num, rfl, rfl, HM.out, NX, II.out.1, hs3, II.out.2⟩
            case measure => simp [intOf]; omega
          · have t2 : (xk.toList == key.toList) = false := by rw [str_beq]; simp [hk]
            have NX0 := put_next (by have := HN.out; omega) (by rw [← HX.out.1, ← HX.out.2.1]; exact hk) PS.out
            rw [← HX.out.1] at NX0
            have NX := hid NX0
            clear hk PS NX0
            go_wp2_with (refine wpList_appI rfl (.tmp 41) (.tmp 46) rfl S (Nat.le_trans hs3 (below_alloc (Below.refl _ w3) (.cells #[.string xk, .slice x.A xm x.c] 102)).size) R3 c3 (m + 1) L3 rfl HM.out (II.out.1.below (below_alloc (Below.refl _ w3) _)) w3.heap.size x xm rfl HX.out.2.2.symm (by rw [← HX.out.2.1]; exact cell_at (heap_alloc_new _ _) rfl) (cell_at (heap_alloc_new _ _) rfl) (RX.out.below (below_alloc (Below.refl _ w3) _)) (by omega) ?_)
            intro R2 c2 w2 i2 b2
            have HI2 := hid i2
            have B2 : Below S w w2 := II.out.2.trans (((Below.refl S w3).alloc hs3 _).trans b2)
            have s2 : S ≤ w2.heap.size := Nat.le_trans hs3 (Nat.le_trans (below_alloc (Below.refl _ w3) (.cells #[.string xk, .slice x.A xm x.c] 102)).size b2.size)
            have HM2 := hid (show (L3 ++ [x]).length = m + 1 + 1 by rw [List.length_append, List.length_singleton, HM.out])
            clear i2 b2 q0 q1
            go_wp2
            go_roundw
            case rel => exact ⟨j + 1, m + 1 + 1, c2, R2, L3 ++ [x], true, hlt, by go_num, rfl, rfl, HM2.out, NX, HI2.out, s2, B2⟩
            case measure => simp [intOf]; omega
    · obtain rfl : n = j := by omega
      have t1 : decide ((n : Int) < (n : Int)) = false := by simp
      have eL : l.take n = l := List.take_of_length_le (Nat.le_of_eq HN.out)
      rw [eL] at PS
      clear eL hlt hj
      cases d with
      | true =>
        have E : Hid ((L.map RI.itm).Perm (putI (l.map RI.itm) ⟨key, row⟩)) := hid PS.out
        go_wp2
        go_ret
        exact ⟨L, E, R, c', m, rfl, HM.out, HS.out ▸ II.out.1, HS.out ▸ II.out.2⟩
      | false =>
        have JN := hid (copy_gave HRm.out (HR.out.below (show Below w.heap.size w wr from HS.out ▸ II.out.2)) hmb)
        go_wp2_with fail
        refine JN.out.mono ?_
        rintro e w1 ⟨QA, qc, rfl, qr, b1⟩
        clear JN
        have al := below_alloc (Below.refl _ w1) (.cells #[.string key, .slice QA rm qc] 102)
        have QR := hid (qr.below al)
        have I1 := hid ((II.out.1.below b1).below al)
        have s1 : S ≤ (w1.alloc (.cells #[.string key, .slice QA rm qc] 102)).heap.size := Nat.le_trans hs (Nat.le_trans b1.size al.size)
        have B1 := hid ((II.out.2.trans (b1.mono hs)).trans (al.mono (Nat.le_trans hs b1.size)))
        clear II qr b1 al
        go_wp2_with (refine wpList_appI rfl (.tmp 50) (.tmp 55) rfl S s1 R c' m L rfl HM.out I1.out w1.heap.size ⟨key, QA, qc, row⟩ rm rfl HRm.out (cell_at (heap_alloc_new _ _) rfl) (cell_at (heap_alloc_new _ _) rfl) QR.out (by omega) ?_)
        intro R3 c3 w3 i3 b3
        have II := hid (And.intro i3 (B1.out.trans b3))
        replace PS := hid (put_begin (q := ⟨key, QA, qc, row⟩) PS.out rfl)
        replace HM := hid (show (L ++ [(⟨key, QA, qc, row⟩ : RI)]).length = m + 1 by rw [List.length_append, List.length_singleton, HM.out])
        generalize L ++ [(⟨key, QA, qc, row⟩ : RI)] = L3 at *
        clear i3 b3 B1 I1 QR s1 hs
        have E : Hid ((L3.map RI.itm).Perm (putI (l.map RI.itm) ⟨key, row⟩)) := hid PS.out
        go_wp2
        go_ret
        exact ⟨L3, E, R3, c3, m + 1, rfl, HM.out, HS.out ▸ II.out.1, HS.out ▸ II.out.2⟩

/-! ### Half -/
def halfR (l : List RI) (d : Nat) (b : Int) : List RI := l.filter fun x => btK x.key d == b
theorem half_map (l : List RI) (d : Nat) (b : Int) : (halfR l d b).map RI.itm = halfI (l.map RI.itm) d b := by
  unfold halfR halfI
  induction l with
  | nil => rfl
  | cons x l ih =>
    rw [List.filter_cons, List.map_cons, List.filter_cons]
    by_cases h : btK x.key d == b
    · rw [if_pos h, if_pos (show btK x.itm.key d == b from h), List.map_cons, ih]
    · rw [if_neg h, if_neg (show ¬ (btK x.itm.key d == b) = true from h), ih]
def KeysOk (l : List RI) : Prop := ∀ x ∈ l, x.key.size ≤ 1000000
end Go.Proofs.YtcfjciencggflaaDoor

/- The reference's Half and Digest. -/
namespace Go.Proofs.YtcfjciencggflaaDoor
open Go.RowKit PrintLast

theorem rsumK {w : World} {g c : Nat} {k : ByteArray} (hk : k.size ≤ 1000000) (hp : BSA w (some ⟨g, 0, none⟩) c k.data.toList) :
    Calls Tryd.prog 11 #[.slice (some ⟨g, 0, none⟩) k.size c] w fun e w' => e = .returned (.string (pathS k)) ∧ Below w.heap.size w w' := rsum_dig (bsz k) hp (by rw [bsz]; omega)
theorem rbitK {w : World} {k : ByteArray} {d : Nat} (hd : d ≤ 1000000) :
    Calls Tryd.prog 19 #[.string (pathS k), .int .i64 (d : Int)] w fun e w' => e = .returned (.int .i64 (btK k d)) ∧ w = w' := by
  have := rbit_any (w := w) (s := pathS k) (i := (d : Int)) (by rw [pathS_list, path_length]; omega) ⟨by omega, by omega⟩
  rw [pathS_list] at this
  exact this

set_option maxRecDepth 100000 in
set_option maxHeartbeats 6400000 in
theorem rhalf_any {w : World} {A : Option Addr} {c n d : Nat} {l : List RI} {b : Int} (hn : l.length = n) (h : ItAt w A l) (hkk : KeysOk l) (hc : n ≤ c) (hb : n ≤ 1000000) (hd : d ≤ 1000000) :
    Calls Tryd.prog 60 #[.slice A n c, .int .i64 (d : Int), .int .i64 b] w (GaveI w (halfR l d b)) := by
  obtain ⟨S, hS⟩ : ∃ S, S = w.heap.size := ⟨_, rfl⟩
  have HS := hid hS
  have HH := hid h
  have HN := hid hn
  have KK := hid hkk
  have I0 := Its.nil w S
  have B0 := Below.refl S w
  have s0 : S ≤ w.heap.size := by omega
  clear h hn hS hkk
  go_enter Tryd.func60, Tryd.ntmps60
  go_wp2
  go_loopw [7, 8] (fun o i wr => ∃ (j m c' : Nat) (R : Option Addr) (L : List RI), j ≤ n ∧ i = .int .i64 j ∧ o = .slice R m c' ∧ L.length = m ∧ m ≤ j ∧ Hid (L = halfR (l.take j) d b) ∧ Its wr S R c' L ∧ S ≤ wr.heap.size ∧ Below S w wr) (fun _ i _ => n - (intOf i).toNat)
  case atStart => exact ⟨0, 0, 0, none, [], Nat.zero_le _, rfl, rfl, rfl, Nat.le_refl _, hid rfl, I0, s0, B0⟩
  case round =>
    clear I0 B0 s0
    obtain ⟨j, m, c', R, L, hj, rfl, rfl, hm, hmj, hL, hI, hs, hB⟩ := hrel
    have HM := hid hm
    have II := hid (And.intro hI hB)
    clear hm hI hB
    by_cases hlt : j < n
    · have t1 : decide ((j : Int) < (n : Int)) = true := by simp; omega
      have t1' : decide (j < n) = true := by simp; omega
      have jl : j < l.length := by have := HN.out; omega
      have hat := HH.out.below (show Below w.heap.size w wr from HS.out ▸ II.out.2)
      obtain ⟨g, o, rfl, q0, q1⟩ := hat.at_ j jl
      obtain ⟨x, hx⟩ : ∃ x, x = l[j] := ⟨_, rfl⟩
      rw [← hx] at q0 q1
      have RX := hid (show Row wr 0 x.A x.c x.row from hat.2.2 x (by rw [hx]; exact List.getElem_mem jl))
      have kx : x.key.size ≤ 1000000 := KK.out x (by rw [hx]; exact List.getElem_mem jl)
      obtain ⟨xk, hxk⟩ : ∃ xk, xk = x.key := ⟨_, rfl⟩
      obtain ⟨xm, hxm⟩ : ∃ xm, xm = x.row.length := ⟨_, rfl⟩
      rw [← hxk] at q0 kx
      rw [← hxm] at q1
      have HX := hid (And.intro hx (And.intro hxk hxm))
      have ks : xk.size ≤ maxLen := by unfold maxLen; omega
      clear hat hx hxk hxm
      go_wp2_with (refine wpList_conv rfl (.tmp 19) rfl xk rfl ks ?_)
      intro g1 c1 w1 _ z1 b1
      have H := hid (rsumK kx z1)
      have Q0 := hid (below_cell b1 q0)
      have Q1 := hid (below_cell b1 q1)
      replace RX := hid (RX.out.below b1)
      replace II := hid (And.intro (II.out.1.below b1) (II.out.2.trans (b1.mono hs)))
      have s1 : S ≤ w1.heap.size := Nat.le_trans hs b1.size
      clear b1 z1 q0 q1 ks
      go_wp2_with fail
      refine H.out.mono ?_
      rintro e w2 ⟨rfl, b2⟩
      have q0 := below_cell b2 Q0.out
      have q1 := below_cell b2 Q1.out
      replace RX := hid (RX.out.below b2)
      replace II := hid (And.intro (II.out.1.below b2) (II.out.2.trans (b2.mono s1)))
      have s2 : S ≤ w2.heap.size := Nat.le_trans s1 b2.size
      clear b2 H Q0 Q1 s1
      have H0 := rbitK (w := w2) (k := xk) (d := d) hd
      obtain ⟨bt, hbt⟩ : ∃ bt, bt = btK xk d := ⟨_, rfl⟩
      rw [← hbt] at H0
      have H := hid H0
      have HBT := hid hbt
      clear H0 hbt
      by_cases hk : bt = b
      · have t2 : (bt == b) = true := by simp [hk]
        have NX := hid (show L ++ [x] = halfR (l.take (j + 1)) d b by
          have jl : j < l.length := by have := HN.out; omega
          have e := filter_next l (fun x => btK x.key d == b) j jl
          have hk' : btK l[j].key d = b := by rw [← HX.out.1, ← HX.out.2.1, ← HBT.out, hk]
          rw [if_pos (by simp [hk'])] at e
          rw [hL.out, HX.out.1]
          exact e.symm)
        clear hk hL
        go_wp2_with fail
        refine H.out.mono ?_
        rintro e w3 ⟨rfl, rfl⟩
        go_wp2_with (refine wpList_appI rfl (.tmp 26) (.tmp 31) rfl S (Nat.le_trans s2 (below_alloc (Below.refl _ w2) (.cells #[.string xk, .slice x.A xm x.c] 102)).size) R c' m L rfl HM.out (II.out.1.below (below_alloc (Below.refl _ w2) _)) w2.heap.size x xm rfl HX.out.2.2.symm (by rw [← HX.out.2.1]; exact cell_at (heap_alloc_new _ _) rfl) (cell_at (heap_alloc_new _ _) rfl) (RX.out.below (below_alloc (Below.refl _ w2) _)) (by omega) ?_)
        intro R2 c2 w4 i2 b2
        have HI2 := hid i2
        have B2 : Below S w w4 := II.out.2.trans (((Below.refl S w2).alloc s2 _).trans b2)
        have s4 : S ≤ w4.heap.size := Nat.le_trans s2 (Nat.le_trans (below_alloc (Below.refl _ w2) (.cells #[.string xk, .slice x.A xm x.c] 102)).size b2.size)
        have HM2 := hid (show (L ++ [x]).length = m + 1 by rw [List.length_append, List.length_singleton, HM.out])
        have hmj' : m + 1 ≤ j + 1 := by omega
        clear i2 b2 q0 q1
        go_wp2
        go_roundw
        case rel => exact ⟨j + 1, m + 1, c2, R2, L ++ [x], hlt, by go_num, rfl, HM2.out, hmj', NX, HI2.out, s4, B2⟩
        case measure => simp [intOf]; omega
      · have t2 : (bt == b) = false := by simp [hk]
        have NX := hid (show L = halfR (l.take (j + 1)) d b by
          have jl : j < l.length := by have := HN.out; omega
          have e := filter_next l (fun x => btK x.key d == b) j jl
          have hk' : ¬ btK l[j].key d = b := by rw [← HX.out.1, ← HX.out.2.1, ← HBT.out]; exact hk
          rw [if_neg (by simp [hk'])] at e
          rw [hL.out]
          exact e.symm)
        have hmj' : m ≤ j + 1 := by omega
        clear hk hL
        go_wp2_with fail
        refine H.out.mono ?_
        rintro e w3 ⟨rfl, rfl⟩
        go_wp2
        go_roundw
        case rel => exact ⟨j + 1, m, c', R, L, hlt, by go_num, rfl, HM.out, hmj', NX, II.out.1, s2, II.out.2⟩
        case measure => simp [intOf]; omega
    · obtain rfl : n = j := by omega
      have t1 : decide ((n : Int) < (n : Int)) = false := by simp
      have E := hid (show L = halfR l d b by rw [hL.out, List.take_of_length_le (Nat.le_of_eq HN.out)])
      clear hL
      go_wp2
      go_ret
      refine ⟨R, c', m, rfl, ?_, ?_, ?_⟩
      · rw [← E.out]; exact HM.out
      · rw [← E.out, ← HS.out]; exact II.out.1
      · rw [← HS.out]; exact II.out.2

/-! ### Digest -/
theorem half_keys {l : List RI} {d : Nat} {b : Int} (h : KeysOk l) : KeysOk (halfR l d b) := fun x hx => h x (List.mem_filter.1 hx).1
def RowsOk (l : List RI) : Prop := ∀ x ∈ l, x.row.length ≤ 1000000
theorem half_rows {l : List RI} {d : Nat} {b : Int} (h : RowsOk l) : RowsOk (halfR l d b) := fun x hx => h x (List.mem_filter.1 hx).1
theorem halfR_length (l : List RI) (d : Nat) (b : Int) : (halfR l d b).length ≤ l.length := List.length_filter_le _ _
def mapI (l : List RI) : List Itm := l.map RI.itm

set_option maxRecDepth 100000 in
set_option maxHeartbeats 6400000 in
theorem rdig_none {w : World} {A : Option Addr} {c : Nat} {d : Int} :
    Calls Tryd.prog 37 #[.slice A 0 c, .int .i64 d] w fun e w' => e = .returned (.string (digS .nil)) ∧ Below w.heap.size w w' := by
  have H := hid (rempty_any (w := w))
  go_enter Tryd.func37, Tryd.ntmps37
  go_wp2_with fail
  refine H.out.mono ?_
  rintro e w1 ⟨rfl, b1⟩
  go_wp2
  go_ret
  exact ⟨rfl, b1⟩
set_option maxRecDepth 100000 in
set_option maxHeartbeats 6400000 in
theorem rdig_leaf {w : World} {g o c n d : Nat} {x : RI} (hn : 0 < n) (hc : n ≤ c) (hb : n ≤ 1000000) (q0 : w.cell? ⟨g, o, none⟩ = some (.string x.key)) (q1 : w.cell? ⟨g, o + 1, none⟩ = some (.slice x.A x.row.length x.c)) (hr : Row w 0 x.A x.c x.row) (hk : x.key.size ≤ 1000000) (hm : x.row.length ≤ 1000000) (hd : d ≤ 256) (h1 : n = 1 ∨ 255 < d) :
    Calls Tryd.prog 37 #[.slice (some ⟨g, o, none⟩) n c, .int .i64 (d : Int)] w fun e w' => e = .returned (.string (digS (.leaf x.itm))) ∧ Below w.heap.size w w' := by
  have t0 : ((n : Int) == 0) = false := by rw [beq_eq_false_iff_ne]; omega
  have al := hr.bsa
  obtain ⟨xk, hxk⟩ : ∃ xk, xk = x.key := ⟨_, rfl⟩
  obtain ⟨xm, hxm⟩ : ∃ xm, xm = x.row.length := ⟨_, rfl⟩
  have ED : Hid (dig (leafB xk.data.toList x.row) = digS (.leaf x.itm)) := hid (by rw [hxk]; rfl)
  rw [← hxk] at q0 hk
  rw [← hxm] at q1 hm
  obtain ⟨LB, hLB⟩ : ∃ LB, LB = leafB xk.data.toList x.row := ⟨_, rfl⟩
  obtain ⟨ln, hln⟩ : ∃ ln, ln = LB.length := ⟨_, rfl⟩
  have hlb : ln ≤ 1000000000000 := by rw [hln, hLB, leafB_length]; simp; omega
  have HL : Hid (Calls Tryd.prog 25 #[.string xk, .slice x.A xm x.c] w.drew fun e w' => ∃ A' c', e = .returned (.slice A' ln c') ∧ BSA w' A' c' LB ∧ Below w.drew.heap.size w.drew w') := hid (by
    have H := rleafBytes_any (a := xk) (A := x.A) (c := x.c) (r := x.row) hk (by omega) (show BSA w.drew x.A x.c x.row from al)
    rw [← hxm] at H
    refine H.mono ?_
    rintro e w' ⟨A', c', rfl, h1, h2⟩
    exact ⟨A', c', by rw [hln, hLB], by rw [hLB]; exact h1.bsa, h2⟩)
  have HD : Hid (dig LB = digS (.leaf x.itm)) := hid (by rw [hLB]; exact ED.out)
  have HS := hid (fun (w1 : World) (A' : Option Addr) (c' : Nat) (h1 : BSA w1 A' c' LB) => rsum_dig hln.symm h1 (by omega))
  have t3 : decide (0 < n) = true := by simp; omega
  have t4 : decide ((0 : Int) < (n : Int)) = true := by simp; omega
  clear hr al hxk hxm hLB hln hlb hk hm ED
  by_cases hn1 : n = 1
  · have t1 : ((n : Int) == 1) = true := by rw [beq_iff_eq]; omega
    clear hn1 h1
    go_enter Tryd.func37, Tryd.ntmps37
    go_wp2
    refine start_ (n := 11) (S := fun w' => w'.cell? ⟨g, o, none⟩ = some (.string xk) ∧ w'.cell? ⟨g, o + 1, none⟩ = some (.slice x.A xm x.c)) (ds := []) #[false, false, false, false, false, false, false, false, false, false, false] (by kernel_rfl) rfl rfl ⟨q0, q1⟩ (fun hHeld => ?_)
    refine pure_ (i := 0) (N := some 16) (v := ?_) (a' := ?_) #[true, false, false, false, false, false, false, false, false, false, false] rfl rfl (by kernel_rfl) (fun _ _ _ h => h) (Or.inl ⟨by rfl, ?_⟩) ?_ ?_
    rotate_left
    · intro w'
      go_simp
      with_reducible rfl
    rotate_left
    · simp only [Act.put, List.setIfInBounds_toArray, List.set_cons_zero, List.set_cons_succ, i64_w, i32_w]
      rfl
    refine pure_ (i := 1) (N := some 17) (v := ?_) (a' := ?_) #[true, true, false, false, false, false, false, false, false, false, false] rfl rfl (by kernel_rfl) (fun _ _ _ h => h) (Or.inl ⟨by rfl, ?_⟩) ?_ ?_
    rotate_left
    · intro w'
      go_simp
      with_reducible rfl
    rotate_left
    · simp only [Act.put, List.setIfInBounds_toArray, List.set_cons_zero, List.set_cons_succ, i64_w, i32_w]
      rfl
    refine pure_ (i := 2) (N := some 18) (v := ?_) (a' := ?_) #[true, true, true, false, false, false, false, false, false, false, false] rfl rfl (by kernel_rfl) (fun _ _ _ h => h) (Or.inl ⟨by rfl, ?_⟩) ?_ ?_
    rotate_left
    · intro w'
      go_simp
      with_reducible rfl
    rotate_left
    · simp only [Act.put, List.setIfInBounds_toArray, List.set_cons_zero, List.set_cons_succ, i64_w, i32_w]
      rfl
    refine pure_ (i := 4) (N := some 20) (v := ?_) (a' := ?_) #[true, true, true, false, true, false, false, false, false, false, false] rfl rfl (by kernel_rfl) (fun _ _ _ h => h) (Or.inl ⟨by rfl, ?_⟩) ?_ ?_
    rotate_left
    · intro w'
      go_simp
      with_reducible rfl
    rotate_left
    · simp only [Act.put, List.setIfInBounds_toArray, List.set_cons_zero, List.set_cons_succ, i64_w, i32_w]
      rfl
    refine pure_ (i := 5) (N := some 21) (v := ?_) (a' := ?_) #[true, true, true, false, true, true, false, false, false, false, false] rfl rfl (by kernel_rfl) (fun _ _ _ h => h) (Or.inl ⟨by rfl, ?_⟩) ?_ ?_
    rotate_left
    · intro w'
      go_simp
      with_reducible rfl
    rotate_left
    · simp only [Act.put, List.setIfInBounds_toArray, List.set_cons_zero, List.set_cons_succ, i64_w, i32_w]
      rfl
    refine pure_ (i := 6) (N := some 22) (v := ?_) (a' := ?_) #[true, true, true, false, true, true, true, false, false, false, false] rfl rfl (by kernel_rfl) (fun _ _ _ h => h) (Or.inl ⟨by rfl, ?_⟩) ?_ ?_
    rotate_left
    · intro w'
      go_simp
      with_reducible rfl
    rotate_left
    · simp only [Act.put, List.setIfInBounds_toArray, List.set_cons_zero, List.set_cons_succ, i64_w, i32_w]
      rfl
    refine take_ (i := 3) (N := some 19) (v := ?_) (a' := ?_) #[true, true, true, true, true, true, true, false, false, false, false] rfl rfl (by kernel_rfl) (fun _ _ _ h => h) (Or.inl ⟨by rfl, ?_⟩) hHeld ?_ ?_
    rotate_left
    · rintro w' ⟨s0, s1⟩
      go_simp
      with_reducible rfl
    rotate_left
    · simp only [Act.put, List.setIfInBounds_toArray, List.set_cons_zero, List.set_cons_succ, i64_w, i32_w]
      rfl
    refine take_ (i := 7) (N := some 23) (v := ?_) (a' := ?_) #[true, true, true, true, true, true, true, true, false, false, false] rfl rfl (by kernel_rfl) (fun _ _ _ h => h) (Or.inl ⟨by rfl, ?_⟩) hHeld ?_ ?_
    rotate_left
    · rintro w' ⟨s0, s1⟩
      go_simp
      with_reducible rfl
    rotate_left
    · simp only [Act.put, List.setIfInBounds_toArray, List.set_cons_zero, List.set_cons_succ, i64_w, i32_w]
      rfl
    refine one_ (i := 8) (N := some 24) #[true, true, true, true, true, true, true, true, true, false, false] rfl rfl (by kernel_rfl) (by decide) (fun K hK => ?_)
    refine goes_ Tryd.func25 (by kernel_rfl) rfl #[.string xk, .slice x.A xm x.c] (by rfl) rfl rfl (by simp only [List.map_toArray, List.map_cons, List.map_nil]; rfl) ?_
    with_reducible refine (HL.out).mono ?_
    rintro e' w1 ⟨A1, a1, rfl, r1, b1⟩
    refine ⟨_, rfl, ?_⟩
    refine hK.out _ _ ⟨(below_cell b1 hHeld.1), (below_cell b1 hHeld.2)⟩ (fun hHeld => ?_)
    clear hK K
    refine norm_ (a' := ?_) ?_ ?_
    rotate_left
    · show Act.put _ (some 24) _ = _
      simp only [Act.put, List.setIfInBounds_toArray, List.set_cons_zero, List.set_cons_succ, i64_w, i32_w]
      rfl
    refine one_ (i := 9) (N := some 25) #[true, true, true, true, true, true, true, true, true, true, false] rfl rfl (by kernel_rfl) (by decide) (fun K hK => ?_)
    refine goes_ Tryd.func11 (by kernel_rfl) rfl #[.slice A1 ln a1] (by rfl) rfl rfl (by simp only [List.map_toArray, List.map_cons, List.map_nil]; rfl) ?_
    with_reducible refine ((HS.out w1 A1 a1 r1)).mono ?_
    rintro e' w2 ⟨rfl, b2⟩
    refine ⟨_, rfl, ?_⟩
    refine hK.out _ _ ⟨(below_cell b2 hHeld.1), (below_cell b2 hHeld.2)⟩ (fun hHeld => ?_)
    clear hK K
    refine norm_ (a' := ?_) ?_ ?_
    rotate_left
    · show Act.put _ (some 25) _ = _
      simp only [Act.put, List.setIfInBounds_toArray, List.set_cons_zero, List.set_cons_succ, i64_w, i32_w]
      rfl
    refine pure_ (i := 10) (N := some 4) (v := ?_) (a' := ?_) #[true, true, true, true, true, true, true, true, true, true, true] rfl rfl (by kernel_rfl) (fun _ _ _ h => h) (Or.inl ⟨by rfl, ?_⟩) ?_ ?_
    rotate_left
    · intro w'
      go_simp
      with_reducible rfl
    rotate_left
    · simp only [Act.put, List.setIfInBounds_toArray, List.set_cons_zero, List.set_cons_succ, i64_w, i32_w]
      rfl
    refine done_ (by kernel_rfl) ?_
    have B2 : Below w.heap.size w w2 := (Below.refl w.heap.size w).drew.trans (b1.trans (b2.mono b1.size))
    go_wp2
    go_ret
    exact ⟨by rw [← HD.out]; rfl, B2⟩
  · have t1 : ((n : Int) == 1) = false := by rw [beq_eq_false_iff_ne]; omega
    have t2 : decide ((255 : Int) < (d : Int)) = true := by simp; omega
    clear hn1 h1
    go_enter Tryd.func37, Tryd.ntmps37
    go_wp2
    refine start_ (n := 11) (S := fun w' => w'.cell? ⟨g, o, none⟩ = some (.string xk) ∧ w'.cell? ⟨g, o + 1, none⟩ = some (.slice x.A xm x.c)) (ds := []) #[false, false, false, false, false, false, false, false, false, false, false] (by kernel_rfl) rfl rfl ⟨q0, q1⟩ (fun hHeld => ?_)
    refine pure_ (i := 0) (N := some 16) (v := ?_) (a' := ?_) #[true, false, false, false, false, false, false, false, false, false, false] rfl rfl (by kernel_rfl) (fun _ _ _ h => h) (Or.inl ⟨by rfl, ?_⟩) ?_ ?_
    rotate_left
    · intro w'
      go_simp
      with_reducible rfl
    rotate_left
    · simp only [Act.put, List.setIfInBounds_toArray, List.set_cons_zero, List.set_cons_succ, i64_w, i32_w]
      rfl
    refine pure_ (i := 1) (N := some 17) (v := ?_) (a' := ?_) #[true, true, false, false, false, false, false, false, false, false, false] rfl rfl (by kernel_rfl) (fun _ _ _ h => h) (Or.inl ⟨by rfl, ?_⟩) ?_ ?_
    rotate_left
    · intro w'
      go_simp
      with_reducible rfl
    rotate_left
    · simp only [Act.put, List.setIfInBounds_toArray, List.set_cons_zero, List.set_cons_succ, i64_w, i32_w]
      rfl
    refine pure_ (i := 2) (N := some 18) (v := ?_) (a' := ?_) #[true, true, true, false, false, false, false, false, false, false, false] rfl rfl (by kernel_rfl) (fun _ _ _ h => h) (Or.inl ⟨by rfl, ?_⟩) ?_ ?_
    rotate_left
    · intro w'
      go_simp
      with_reducible rfl
    rotate_left
    · simp only [Act.put, List.setIfInBounds_toArray, List.set_cons_zero, List.set_cons_succ, i64_w, i32_w]
      rfl
    refine pure_ (i := 4) (N := some 20) (v := ?_) (a' := ?_) #[true, true, true, false, true, false, false, false, false, false, false] rfl rfl (by kernel_rfl) (fun _ _ _ h => h) (Or.inl ⟨by rfl, ?_⟩) ?_ ?_
    rotate_left
    · intro w'
      go_simp
      with_reducible rfl
    rotate_left
    · simp only [Act.put, List.setIfInBounds_toArray, List.set_cons_zero, List.set_cons_succ, i64_w, i32_w]
      rfl
    refine pure_ (i := 5) (N := some 21) (v := ?_) (a' := ?_) #[true, true, true, false, true, true, false, false, false, false, false] rfl rfl (by kernel_rfl) (fun _ _ _ h => h) (Or.inl ⟨by rfl, ?_⟩) ?_ ?_
    rotate_left
    · intro w'
      go_simp
      with_reducible rfl
    rotate_left
    · simp only [Act.put, List.setIfInBounds_toArray, List.set_cons_zero, List.set_cons_succ, i64_w, i32_w]
      rfl
    refine pure_ (i := 6) (N := some 22) (v := ?_) (a' := ?_) #[true, true, true, false, true, true, true, false, false, false, false] rfl rfl (by kernel_rfl) (fun _ _ _ h => h) (Or.inl ⟨by rfl, ?_⟩) ?_ ?_
    rotate_left
    · intro w'
      go_simp
      with_reducible rfl
    rotate_left
    · simp only [Act.put, List.setIfInBounds_toArray, List.set_cons_zero, List.set_cons_succ, i64_w, i32_w]
      rfl
    refine take_ (i := 3) (N := some 19) (v := ?_) (a' := ?_) #[true, true, true, true, true, true, true, false, false, false, false] rfl rfl (by kernel_rfl) (fun _ _ _ h => h) (Or.inl ⟨by rfl, ?_⟩) hHeld ?_ ?_
    rotate_left
    · rintro w' ⟨s0, s1⟩
      go_simp
      with_reducible rfl
    rotate_left
    · simp only [Act.put, List.setIfInBounds_toArray, List.set_cons_zero, List.set_cons_succ, i64_w, i32_w]
      rfl
    refine take_ (i := 7) (N := some 23) (v := ?_) (a' := ?_) #[true, true, true, true, true, true, true, true, false, false, false] rfl rfl (by kernel_rfl) (fun _ _ _ h => h) (Or.inl ⟨by rfl, ?_⟩) hHeld ?_ ?_
    rotate_left
    · rintro w' ⟨s0, s1⟩
      go_simp
      with_reducible rfl
    rotate_left
    · simp only [Act.put, List.setIfInBounds_toArray, List.set_cons_zero, List.set_cons_succ, i64_w, i32_w]
      rfl
    refine one_ (i := 8) (N := some 24) #[true, true, true, true, true, true, true, true, true, false, false] rfl rfl (by kernel_rfl) (by decide) (fun K hK => ?_)
    refine goes_ Tryd.func25 (by kernel_rfl) rfl #[.string xk, .slice x.A xm x.c] (by rfl) rfl rfl (by simp only [List.map_toArray, List.map_cons, List.map_nil]; rfl) ?_
    with_reducible refine (HL.out).mono ?_
    rintro e' w1 ⟨A1, a1, rfl, r1, b1⟩
    refine ⟨_, rfl, ?_⟩
    refine hK.out _ _ ⟨(below_cell b1 hHeld.1), (below_cell b1 hHeld.2)⟩ (fun hHeld => ?_)
    clear hK K
    refine norm_ (a' := ?_) ?_ ?_
    rotate_left
    · show Act.put _ (some 24) _ = _
      simp only [Act.put, List.setIfInBounds_toArray, List.set_cons_zero, List.set_cons_succ, i64_w, i32_w]
      rfl
    refine one_ (i := 9) (N := some 25) #[true, true, true, true, true, true, true, true, true, true, false] rfl rfl (by kernel_rfl) (by decide) (fun K hK => ?_)
    refine goes_ Tryd.func11 (by kernel_rfl) rfl #[.slice A1 ln a1] (by rfl) rfl rfl (by simp only [List.map_toArray, List.map_cons, List.map_nil]; rfl) ?_
    with_reducible refine ((HS.out w1 A1 a1 r1)).mono ?_
    rintro e' w2 ⟨rfl, b2⟩
    refine ⟨_, rfl, ?_⟩
    refine hK.out _ _ ⟨(below_cell b2 hHeld.1), (below_cell b2 hHeld.2)⟩ (fun hHeld => ?_)
    clear hK K
    refine norm_ (a' := ?_) ?_ ?_
    rotate_left
    · show Act.put _ (some 25) _ = _
      simp only [Act.put, List.setIfInBounds_toArray, List.set_cons_zero, List.set_cons_succ, i64_w, i32_w]
      rfl
    refine pure_ (i := 10) (N := some 4) (v := ?_) (a' := ?_) #[true, true, true, true, true, true, true, true, true, true, true] rfl rfl (by kernel_rfl) (fun _ _ _ h => h) (Or.inl ⟨by rfl, ?_⟩) ?_ ?_
    rotate_left
    · intro w'
      go_simp
      with_reducible rfl
    rotate_left
    · simp only [Act.put, List.setIfInBounds_toArray, List.set_cons_zero, List.set_cons_succ, i64_w, i32_w]
      rfl
    refine done_ (by kernel_rfl) ?_
    have B2 : Below w.heap.size w w2 := (Below.refl w.heap.size w).drew.trans (b1.trans (b2.mono b1.size))
    go_wp2
    go_ret
    exact ⟨by rw [← HD.out]; rfl, B2⟩
theorem rnodeK {w : World} {s t : Tr} :
    Calls Tryd.prog 26 #[.string (digS s), .string (digS t)] w fun e w' => ∃ A' c' n, e = .returned (.slice A' n c') ∧ (nodeB s.dig t.dig).length = n ∧ n ≤ 1000 ∧ BSA w' A' c' (nodeB s.dig t.dig) ∧ Below w.heap.size w w' := by
  have H := rnodeBytes_any (w := w) (a := digS s) (b := digS t) (by rw [digS_size]; omega) (by rw [digS_size]; omega)
  rw [digS_list, digS_list] at H
  refine H.mono ?_
  rintro e w' ⟨A', c', rfl, h1, h2⟩
  exact ⟨A', c', _, rfl, rfl, by rw [nodeB_length, dig_len, dig_len]; omega, h1, h2⟩
def DigRec (f : Nat) (d : Int) : Prop := ∀ (w : World) (A : Option Addr) (c n : Nat) (l : List RI), l.length = n → ItAt w A l → KeysOk l → RowsOk l → n ≤ c → n ≤ 1000000 →
    Calls Tryd.prog 37 #[.slice A n c, .int .i64 d] w fun e w' => e = .returned (.string (digS (treeF f (mapI l)))) ∧ Below w.heap.size w w'
theorem Its.le {w : World} {B c n : Nat} {A : Option Addr} {l : List RI} (h : Its w B A c l) (hn : l.length = n) : n ≤ c := by have := h.cap.1; omega
set_option maxRecDepth 100000 in
set_option maxHeartbeats 6400000 in
theorem rdig_node {w : World} {A : Option Addr} {c n d f : Nat} {l : List RI} (hn : l.length = n) (h : ItAt w A l) (hkk : KeysOk l) (hrr : RowsOk l) (hc : n ≤ c) (hb : n ≤ 1000000) (hd : d ≤ 255) (h2 : 2 ≤ n) (rec_ : DigRec f ((d : Int) + 1)) :
    Calls Tryd.prog 37 #[.slice A n c, .int .i64 (d : Int)] w fun e w' => e = .returned (.string (digS (.node (treeF f (mapI (halfR l d 0))) (treeF f (mapI (halfR l d 1)))))) ∧ Below w.heap.size w w' := by
  have t0 : ((n : Int) == 0) = false := by rw [beq_eq_false_iff_ne]; omega
  have t1 : ((n : Int) == 1) = false := by rw [beq_eq_false_iff_ne]; omega
  have t2 : decide ((255 : Int) < (d : Int)) = false := by simp; omega
  have HN := hid hn
  have HH := hid h
  have KK := hid (And.intro hkk hrr)
  have RC := hid rec_
  have L0 := hid (Nat.le_trans (halfR_length l d 0) (by omega : l.length ≤ 1000000))
  have L1 := hid (Nat.le_trans (halfR_length l d 1) (by omega : l.length ≤ 1000000))
  have H0 : Hid (Calls Tryd.prog 60 #[.slice A n c, .int .i64 (d : Int), .int .i64 0] w (GaveI w (halfR l d 0))) := hid (rhalf_any hn h hkk hc hb (by omega))
  have ED : Hid (dig (nodeB (treeF f (mapI (halfR l d 0))).dig (treeF f (mapI (halfR l d 1))).dig) = digS (.node (treeF f (mapI (halfR l d 0))) (treeF f (mapI (halfR l d 1))))) := hid rfl
  generalize digS (.node (treeF f (mapI (halfR l d 0))) (treeF f (mapI (halfR l d 1)))) = RES at *
  clear hn h hkk hrr rec_
  go_enter Tryd.func37, Tryd.ntmps37
  go_wp2_with fail
  refine H0.out.mono ?_
  rintro e w1 ⟨A1, c1, n1, rfl, hn1, i1, b1⟩
  have D0 := hid (RC.out w1 A1 c1 n1 _ hn1 i1.at_ (half_keys KK.out.1) (half_rows KK.out.2) (i1.le hn1) (by have := L0.out; omega))
  have BB := hid b1
  clear H0 hn1 i1 b1
  generalize hT0 : treeF f (mapI (halfR l d 0)) = T0 at *
  go_wp2_with fail
  refine D0.out.mono ?_
  rintro e w2 ⟨rfl, b2⟩
  replace BB := hid (below_then BB.out b2)
  have H1 : Hid (Calls Tryd.prog 60 #[.slice A n c, .int .i64 (d : Int), .int .i64 1] w2 (GaveI w2 (halfR l d 1))) := hid (rhalf_any HN.out (HH.out.below BB.out) KK.out.1 hc hb (by omega))
  clear D0 b2
  go_wp2_with fail
  refine H1.out.mono ?_
  rintro e w3 ⟨A3, c3, n3, rfl, hn3, i3, b3⟩
  have D1 := hid (RC.out w3 A3 c3 n3 _ hn3 i3.at_ (half_keys KK.out.1) (half_rows KK.out.2) (i3.le hn3) (by have := L1.out; omega))
  replace BB := hid (below_then BB.out b3)
  clear H1 hn3 i3 b3
  generalize hT1 : treeF f (mapI (halfR l d 1)) = T1 at *
  go_wp2_with fail
  refine D1.out.mono ?_
  rintro e w4 ⟨rfl, b4⟩
  replace BB := hid (below_then BB.out b4)
  have NB := hid (rnodeK (w := w4) (s := T0) (t := T1))
  clear D1 b4
  go_wp2_with fail
  refine NB.out.mono ?_
  rintro e w5 ⟨A5, c5, n5, rfl, hn5, hl5, r5, b5⟩
  replace BB := hid (below_then BB.out b5)
  have SM := hid (rsum_dig hn5 r5 (by omega))
  clear NB hn5 r5 b5
  go_wp2_with fail
  refine SM.out.mono ?_
  rintro e w6 ⟨rfl, b6⟩
  replace BB := hid (below_then BB.out b6)
  clear SM b6
  go_wp2
  go_ret
  exact ⟨by rw [← ED.out]; rfl, BB.out⟩
theorem mapI_length (l : List RI) : (mapI l).length = l.length := List.length_map _
theorem mapI_half (l : List RI) (d : Nat) (b : Int) : mapI (halfR l d b) = halfI (mapI l) d b := half_map l d b
theorem rdig_any (f : Nat) : ∀ (d : Nat), d + f = 256 → DigRec f (d : Int) := by
  induction f with
  | zero =>
    intro d hd w A c n l hn h hk hr hc hb
    match l, hn with
    | [], hn =>
      obtain rfl : n = 0 := by simpa using hn.symm
      exact rdig_none
    | x :: l', hn =>
      have h0 : 0 < (x :: l').length := by simp
      obtain ⟨g, o, rfl, q0, q1⟩ := h.at_ 0 h0
      have e : treeF 0 (mapI (x :: l')) = .leaf x.itm := by cases l' <;> rfl
      rw [e]
      exact rdig_leaf (x := x) (by rw [← hn]; exact h0) hc hb (by simpa using q0) (by simpa using q1) (h.2.2 x (by simp)) (hk x (by simp)) (hr x (by simp)) (by omega) (.inr (by omega))
  | succ f ih =>
    intro d hd w A c n l hn h hk hr hc hb
    by_cases h2 : 2 ≤ n
    · have e : treeF (f + 1) (mapI l) = .node (treeF f (mapI (halfR l d 0))) (treeF f (mapI (halfR l d 1))) := by
        rw [treeF_big f (mapI l) (by rw [mapI_length]; omega), mapI_half, mapI_half, show 255 - f = d by omega]
      rw [e]
      have := ih (d + 1) (by omega)
      rw [show ((d + 1 : Nat) : Int) = (d : Int) + 1 by omega] at this
      exact rdig_node hn h hk hr hc hb (by omega) h2 this
    · match l, hn with
      | [], hn =>
        obtain rfl : n = 0 := by simpa using hn.symm
        exact rdig_none
      | [x], hn =>
        obtain rfl : n = 1 := by simpa using hn.symm
        have h0 : 0 < [x].length := by simp
        obtain ⟨g, o, rfl, q0, q1⟩ := h.at_ 0 h0
        rw [show treeF (f + 1) (mapI [x]) = .leaf x.itm from rfl]
        exact rdig_leaf (x := x) (by omega) hc hb (by simpa using q0) (by simpa using q1) (h.2.2 x (by simp)) (hk x (by simp)) (hr x (by simp)) (by omega) (.inl rfl)
      | x :: y :: l', hn => simp at hn; omega
end Go.Proofs.YtcfjciencggflaaDoor

/- The walk of the reference's Build. -/
namespace Go.Proofs.YtcfjciencggflaaDoor
open Go.RowKit PrintLast

theorem rbuilt_end {w X : World} {S k m c d : Nat} {kk : Int} {R B : Option Addr} {key : ByteArray} {P : Prf} (hS : S = w.heap.size) (h0 : X.heap[S]? = some (.cells #[.slice none 0 0, .int .u8 0, .string ⟨#[]⟩, .slice none 0 0] 36 (0, 0))) (hL : Txt X S R c P.side) (hr : Row X S B d P.row) (hk : P.side.length = k) (hm : P.row.length = m) (hkd : (P.kind.toNat : Int) = kk) (hky : P.key = key) (hX : Below S w X) :
    Built w P (.returned (.agg #[.slice R k c, .int .u8 kk, .string key, .slice B m d])) ((((X.setCell ⟨S, 0, none⟩ (.slice R k c)).setCell ⟨S, 1, none⟩ (.int .u8 kk)).setCell ⟨S, 2, none⟩ (.string key)).setCell ⟨S, 3, none⟩ (.slice B m d)) := by
  subst hk hm hkd hky
  refine ⟨R, c, B, d, rfl, ?_, ?_, ?_⟩
  · rw [← hS]; exact own_far hL (set4_keeps X S _ _ _ _) h0 (by decide)
  · rw [← hS]; exact own_far hr (set4_keeps X S _ _ _ _) h0 (by decide)
  · rw [← hS]; exact set4_below hX (Nat.le_refl _) _ _ _ _
def endI : List RI → Tr
  | [] => .nil
  | x :: _ => .leaf x.itm
def Typed (w : World) (A : Option Addr) : Prop := ∀ g o, A = some ⟨g, o, none⟩ → ∃ cur, w.heap[g]? = some (Obj.cells cur 102 (0, 0))
def Ready (w : World) (A : Option Addr) (L : List RI) : Prop := ItAt w A L ∧ KeysOk L ∧ RowsOk L ∧ Typed w A
theorem Ready.below {w w' : World} {A : Option Addr} {L : List RI} (h : Ready w A L) (hb : Below w.heap.size w w') : Ready w' A L := ⟨h.1.below hb, h.2.1, h.2.2.1, fun g o e => by
    obtain ⟨cur, h1⟩ := h.2.2.2 g o e
    exact ⟨cur, below_heap hb h1⟩⟩
theorem end_few {f n d : Nat} {L : List RI} {key : ByteArray} (hn : L.length = n) (h : n ≤ 1 ∨ f = 0) : walkT (treeF f (mapI L)) d key = ([], endI L) := by
  match L, hn with
  | [], _ => rw [show mapI [] = [] from rfl, treeF_nil]; rfl
  | [x], _ => rw [show mapI [x] = [x.itm] from rfl, treeF_one]; rfl
  | x :: y :: l, hn =>
    rcases h with h | rfl
    · simp at hn; omega
    · rfl
theorem endT_same {s : List ByteArray} {x : Itm} {key : ByteArray} (h : x.key = key) : endT s (.leaf x) key = ⟨s, 1, ⟨#[]⟩, x.row⟩ := by simp [endT, h]
theorem endT_other {s : List ByteArray} {x : Itm} {key : ByteArray} (h : ¬ x.key = key) : endT s (.leaf x) key = ⟨s, 2, x.key, x.row⟩ := by simp [endT, h]
theorem Its.typed {w : World} {B c : Nat} {A : Option Addr} {l : List RI} (h : Its w B A c l) : Typed w A := by
  rintro g o rfl
  rcases h.1.2 with ⟨e', _⟩ | ⟨g', cap, cur, e', _, hg, _⟩
  · cases e'
  · have e2 : g = g' := by simpa using congrArg (fun v => match v with | Value.slice (some a) _ _ => a.block | _ => 0) e'
    rw [e2]
    exact ⟨cur, hg⟩
theorem Row.moved {w w' : World} {B c : Nat} {A : Option Addr} {l : List UInt8} (h : Row w B A c l) (hm : ∀ (k : Nat) (cs : Array Value), w.heap[k]? = some (Obj.cells cs 5 (0, 0)) → w'.heap[k]? = some (Obj.cells cs 5 (0, 0))) : Row w' B A c l := by
  refine ⟨h.1, ?_⟩
  rcases h.2 with k | ⟨g, cap, cur, e, hb, hg, r⟩
  · exact .inl k
  · exact .inr ⟨g, cap, cur, e, hb, hm g cur hg, r⟩
theorem Ready.moved {w w' : World} {A : Option Addr} {L : List RI} (h : Ready w A L) (hm : ∀ (k : Nat) (cs : Array Value) (t : TypeId), (t = 5 ∨ t = 102) → w.heap[k]? = some (Obj.cells cs t (0, 0)) → w'.heap[k]? = some (Obj.cells cs t (0, 0))) : Ready w' A L := by
  obtain ⟨⟨h1, h2, h3⟩, h4, h5, h6⟩ := h
  refine ⟨⟨h1, fun ad e j hj => ?_, fun x hx => (h3 x hx).moved (fun k cs hk => hm k cs _ (.inl rfl) hk)⟩, h4, h5, fun g o e => ?_⟩
  · obtain ⟨g, o, e', _⟩ := ItAt.at_ ⟨h1, h2, h3⟩ j hj
    rw [e] at e'
    cases e'
    obtain ⟨cur, hg⟩ := h6 g o e
    have hg' := hm g cur _ (.inr rfl) hg
    have mv : ∀ i v, w.cell? ((⟨g, o, none⟩ : Addr).add i) = some v → w'.cell? ((⟨g, o, none⟩ : Addr).add i) = some v := fun i v hv => (World.cell?_of_block (by rw [addr_add_block]; exact hg'.trans hg.symm)).trans hv
    obtain ⟨c1, c2⟩ := h2 _ e j hj
    exact ⟨mv _ _ c1, mv _ _ c2⟩
  · obtain ⟨cur, hg⟩ := h6 g o e
    exact ⟨cur, hm g cur _ (.inr rfl) hg⟩
/-- Items that came in stay through a round. -/
theorem rd_move {w0 w1 w3 w4 w2 w5 : World} {A R : Option Addr} {L : List RI} {LS : List ByteArray} {S b1 c' k : Nat} {cs1 : Array Value} (h : Ready w0 A L) (d1 : Below w0.heap.size w0 w1) (d3 : Below w1.heap.size w1 w3) (al : Below w3.heap.size w3 w4) (m2 : w4.grownBy w2 (Value.slice R k c').ownBlock) (kp : Keeps (fun g => g = b1) w2 w5) (hL : Txt w4 S R c' LS) (hk : LS.length = k) (e1 : w2.heap[b1]? = some (.cells cs1 36 (0, 0))) : Ready w5 A L := by
  refine (((h.below d1).below d3).below al).moved (fun g cs t ht hg => ?_)
  have hs : t ≠ 9 := by rcases ht with rfl | rfl <;> decide
  have hg2 := hL.beside hk m2 hg hs
  refine kp.heap hg2 (fun e => ?_)
  rw [e, e1] at hg2
  simp at hg2
  rcases ht with rfl | rfl
  · exact absurd hg2.2 (by decide)
  · exact absurd hg2.2 (by decide)
theorem copy_own {w : World} {A : Option Addr} {c m : Nat} {row : List UInt8} (hm : row.length = m) (hr : BSA w A c row) (hb : m ≤ 1000000) :
    Calls Tryd.prog 23 #[.slice A m c, .slice none 0 0] w fun e w' => ∃ A' c', e = .returned (.slice A' m c') ∧ Row w' w.heap.size A' c' row ∧ Below w.heap.size w w' := by
  refine (join_gave hm rfl (List.append_nil row) hr (BSA.nil w) (by omega)).mono ?_
  rintro e w' ⟨A', c', rfl, h1, h2⟩
  exact ⟨A', c', by rw [hm], h1, h2⟩
theorem infRP : (Tryd.prog.info? 36).map (·.size) = some 4 := by kernel_rfl

end Go.Proofs.YtcfjciencggflaaDoor
