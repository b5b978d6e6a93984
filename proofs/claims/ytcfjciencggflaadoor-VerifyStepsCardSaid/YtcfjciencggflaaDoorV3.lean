import Derived.Test.YtcfjciencggflaaDoorTreeS
import Derived.Test.YtcfjciencggflaaDoorSame
import Derived.Test.YtcfjciencggflaaDoorMade
import Derived.IntWalk
import Derived.Test.YtcfjciencggflaaDoorPrfF
set_option linter.unusedVariables false
set_option linter.unusedSimpArgs false
/- The plain law of the tree, further: what is put, what is gone, the way to a key. -/
namespace Go.Proofs.YtcfjciencggflaaDoor
open Go.RowKit PrintLast

def apartT : Nat → Itm → Itm → Tr
  | 0, _, _ => .nil
  | f + 1, a, b =>
    if btK a.key (255 - f) = btK b.key (255 - f) then (if btK a.key (255 - f) = 0 then joinT (apartT f a b) .nil else joinT .nil (apartT f a b))
    else if btK a.key (255 - f) = 0 then joinT (.leaf a) (.leaf b) else joinT (.leaf b) (.leaf a)
theorem half_two (a b : Itm) (d : Nat) (c : Int) : halfI [a, b] d c = (if btK a.key d = c then [a] else []) ++ (if btK b.key d = c then [b] else []) := by
  unfold halfI
  by_cases h1 : btK a.key d = c <;> by_cases h2 : btK b.key d = c <;> simp [List.filter_cons, h1, h2]
theorem apart_tree (f : Nat) : ∀ {a b : Itm}, Good f [a, b] → f ≤ 256 → apartT f a b = treeF f [a, b] := by
  induction f with
  | zero =>
    intro a b hg _
    have := hg.few
    simp at this
  | succ f ih =>
    intro a b hg hf
    rw [treeF_big f [a, b] (by simp), half_two, half_two]
    unfold apartT
    have g0 := hg.half 0 (by omega)
    have g1 := hg.half 1 (by omega)
    rw [half_two] at g0 g1
    rcases btK_two a.key (255 - f) with h1 | h1 <;> rcases btK_two b.key (255 - f) with h2 | h2
    · simp only [h1, h2, if_true, List.cons_append, List.nil_append, show (0 : Int) ≠ 1 by decide, if_false, List.append_nil] at g0 g1 ⊢
      rw [ih g0 (by omega), treeF_nil]
      obtain ⟨x, y, e⟩ := treeF_node_of g0 (by simp)
      rw [e]; rfl
    · simp only [h1, h2, if_true, List.cons_append, List.nil_append, show (0 : Int) ≠ 1 by decide, show (1 : Int) ≠ 0 by decide, if_false, List.append_nil]
      rw [treeF_one, treeF_one]; rfl
    · simp only [h1, h2, if_true, List.cons_append, List.nil_append, show (0 : Int) ≠ 1 by decide, show (1 : Int) ≠ 0 by decide, if_false, List.append_nil]
      rw [treeF_one, treeF_one]; rfl
    · simp only [h1, h2, if_true, List.cons_append, List.nil_append, show (1 : Int) ≠ 0 by decide, if_false, List.append_nil] at g0 g1 ⊢
      rw [ih g1 (by omega), treeF_nil]
      obtain ⟨x, y, e⟩ := treeF_node_of g1 (by simp)
      rw [e]; rfl

/-! ### put -/
def putI (l : List Itm) (x : Itm) : List Itm := x :: l.filter fun y => decide (y.key ≠ x.key)
def delI (l : List Itm) (k : ByteArray) : List Itm := l.filter fun y => decide (y.key ≠ k)
def putT : Nat → Tr → Itm → Tr
  | _, .nil, x => .leaf x
  | f, .leaf y, x => if pathK y.key = pathK x.key then .leaf x else apartT f y x
  | 0, .node _ _, _ => .nil
  | f + 1, .node l r, x => if btK x.key (255 - f) = 0 then joinT (putT f l x) r else joinT l (putT f r x)
def delT : Nat → Tr → ByteArray → Tr
  | _, .nil, _ => .nil
  | _, .leaf y, k => if y.key = k then .nil else .leaf y
  | 0, .node _ _, _ => .nil
  | f + 1, .node l r, k => if btK k (255 - f) = 0 then joinT (delT f l k) r else joinT l (delT f r k)
theorem filter_comm {α : Type} (p q : α → Bool) (l : List α) : (l.filter p).filter q = (l.filter q).filter p := by
  rw [List.filter_filter, List.filter_filter]
  congr 1
  funext x
  rw [Bool.and_comm]
theorem half_del (l : List Itm) (k : ByteArray) (d : Nat) (b : Int) : halfI (delI l k) d b = delI (halfI l d b) k := filter_comm _ _ _
theorem del_other {l : List Itm} {k : ByteArray} {d : Nat} {b : Int} (h : btK k d ≠ b) : delI (halfI l d b) k = halfI l d b := by
  unfold delI
  rw [List.filter_eq_self]
  intro x hx
  have := (half_mem.1 hx).2
  simp only [decide_eq_true_eq]
  rintro rfl
  exact h this
theorem half_put_same {l : List Itm} {x : Itm} {d : Nat} {b : Int} (h : btK x.key d = b) : halfI (putI l x) d b = putI (halfI l d b) x := by
  have := half_del l x.key d b
  unfold halfI delI putI at *
  rw [List.filter_cons, if_pos (by simp [h]), this]
theorem half_put_other {l : List Itm} {x : Itm} {d : Nat} {b : Int} (h : btK x.key d ≠ b) : halfI (putI l x) d b = halfI l d b := by
  have h1 := half_del l x.key d b
  have h2 := del_other (l := l) h
  unfold halfI delI putI at *
  rw [List.filter_cons, if_neg (by simp [h]), h1, h2]
/-- Sums tell keys apart. -/
def Tells (l : List Itm) (k : ByteArray) : Prop := ∀ y ∈ l, pathK y.key = pathK k → y.key = k
theorem putT_tree (f : Nat) : ∀ {l : List Itm} {x : Itm}, f ≤ 256 → Good f l → Good f (putI l x) → Tells l x.key → putT f (treeF f l) x = treeF f (putI l x) := by
  induction f with
  | zero =>
    intro l x _ hg hp ht
    match l, hg.few with
    | [], _ => rfl
    | [y], _ =>
      rw [treeF_one]
      unfold putT
      by_cases h : pathK y.key = pathK x.key
      · have hk := ht y (by simp) h
        rw [if_pos h]
        unfold putI
        rw [List.filter_cons, if_neg (by simp [hk])]
        rfl
      · have hk : y.key ≠ x.key := fun e => h (by rw [e])
        exfalso
        have e : putI [y] x = [x, y] := by unfold putI; rw [List.filter_cons, if_pos (by simp [hk])]; rfl
        rw [e] at hp
        have := hp.few
        simp at this
  | succ f ih =>
    intro l x hf hg hp ht
    by_cases h2 : 2 ≤ l.length
    · rw [treeF_big f l h2]
      unfold putT
      rw [← join_tree hp (by omega)]
      rcases btK_two x.key (255 - f) with hb | hb
      · rw [if_pos hb, half_put_same hb, half_put_other (b := 1) (by rw [hb]; decide), ih (by omega) (hg.half 0 (by omega)) (by have := hp.half 0 (by omega); rwa [half_put_same hb] at this) (fun y hy => ht y (half_mem.1 hy).1)]
      · rw [if_neg (by rw [hb]; decide), half_put_same hb, half_put_other (b := 0) (by rw [hb]; decide), ih (by omega) (hg.half 1 (by omega)) (by have := hp.half 1 (by omega); rwa [half_put_same hb] at this) (fun y hy => ht y (half_mem.1 hy).1)]
    · match l, h2 with
      | [], _ => rw [treeF_nil]; unfold putT putI; rw [List.filter_nil, treeF_one]
      | [y], _ =>
        rw [treeF_one]
        unfold putT
        by_cases h : pathK y.key = pathK x.key
        · have hk := ht y (by simp) h
          rw [if_pos h]
          unfold putI
          rw [List.filter_cons, if_neg (by simp [hk]), List.filter_nil, treeF_one]
        · have hk : y.key ≠ x.key := fun e => h (by rw [e])
          have e : putI [y] x = [x, y] := by unfold putI; rw [List.filter_cons, if_pos (by simp [hk])]; rfl
          rw [if_neg h]
          rw [e] at hp ⊢
          have hs : [x, y].Perm [y, x] := List.Perm.swap y x []
          rw [treeF_perm (f + 1) hp hf hs, apart_tree (f + 1) (hp.perm hs) hf]
      | x :: y :: l, h2 => simp at h2
theorem delT_tree (f : Nat) : ∀ {l : List Itm} {k : ByteArray}, f ≤ 256 → Good f l → delT f (treeF f l) k = treeF f (delI l k) := by
  induction f with
  | zero =>
    intro l k _ hg
    match l, hg.few with
    | [], _ => rfl
    | [y], _ =>
      rw [treeF_one]
      unfold delT delI
      by_cases h : y.key = k
      · rw [if_pos h, List.filter_cons, if_neg (by simp [h])]; rfl
      · rw [if_neg h, List.filter_cons, if_pos (by simp [h])]; rfl
  | succ f ih =>
    intro l k hf hg
    have hd : Good (f + 1) (delI l k) := hg.sub List.filter_sublist
    by_cases h2 : 2 ≤ l.length
    · rw [treeF_big f l h2]
      unfold delT
      rw [← join_tree hd (by omega), half_del, half_del]
      rcases btK_two k (255 - f) with hb | hb
      · rw [if_pos hb, del_other (b := 1) (by rw [hb]; decide), ih (by omega) (hg.half 0 (by omega))]
      · rw [if_neg (by rw [hb]; decide), del_other (b := 0) (by rw [hb]; decide), ih (by omega) (hg.half 1 (by omega))]
    · match l, h2 with
      | [], _ => rw [treeF_nil]; unfold delT delI; rw [List.filter_nil, treeF_nil]
      | [y], _ =>
        rw [treeF_one]
        unfold delT delI
        by_cases h : y.key = k
        · rw [if_pos h, List.filter_cons, if_neg (by simp [h]), List.filter_nil, treeF_nil]
        · rw [if_neg h, List.filter_cons, if_pos (by simp [h]), List.filter_nil, treeF_one]
      | x :: y :: l, h2 => simp at h2

/-! ### what a tree of items is like -/
theorem treeF_ht (f : Nat) : ∀ l : List Itm, (treeF f l).ht ≤ f := by
  induction f with
  | zero => intro l; match l with
    | [] => simp [treeF, Tr.ht]
    | [x] => simp [treeF, Tr.ht]
    | x :: y :: l => simp [treeF, Tr.ht]
  | succ f ih =>
    intro l
    match l with
    | [] => simp [treeF_nil, Tr.ht]
    | [x] => simp [treeF_one, Tr.ht]
    | x :: y :: l =>
      rw [treeF_big f _ (by simp)]
      unfold Tr.ht
      have h1 := ih (halfI (x :: y :: l) (255 - f) 0)
      have h2 := ih (halfI (x :: y :: l) (255 - f) 1)
      omega
theorem treeF_count (f : Nat) : ∀ {l : List Itm}, f ≤ 256 → Good f l → (treeF f l).count = l.length := by
  induction f with
  | zero =>
    intro l _ hg
    match l, hg.few with
    | [], _ => rfl
    | [x], _ => rfl
  | succ f ih =>
    intro l hf hg
    by_cases h2 : 2 ≤ l.length
    · rw [treeF_big f l h2]
      unfold Tr.count
      rw [ih (by omega) (hg.half 0 (by omega)), ih (by omega) (hg.half 1 (by omega)), half_length]
    · match l, h2 with
      | [], _ => rfl
      | [x], _ => rfl
      | x :: y :: l, h2 => simp at h2
theorem treeF_wf (f : Nat) : ∀ {l : List Itm}, f ≤ 256 → Good f l → (treeF f l).Wf := by
  induction f with
  | zero =>
    intro l _ hg
    match l, hg.few with
    | [], _ => trivial
    | [x], _ => trivial
  | succ f ih =>
    intro l hf hg
    by_cases h2 : 2 ≤ l.length
    · rw [treeF_big f l h2]
      have g0 := hg.half 0 (by omega)
      have g1 := hg.half 1 (by omega)
      refine ⟨?_, ih (by omega) g0, ih (by omega) g1⟩
      rw [treeF_count f (by omega) g0, treeF_count f (by omega) g1, half_length]
      omega
    · match l, h2 with
      | [], _ => trivial
      | [x], _ => trivial
      | x :: y :: l, h2 => simp at h2

/-! ### the way to a key -/
/-- The digests beside the way, from the depth 256 - f on, and what stands at its end. -/
def wayT : Nat → Tr → ByteArray → List (List UInt8) × Tr
  | _, .nil, _ => ([], .nil)
  | _, .leaf y, _ => ([], .leaf y)
  | 0, .node l r, _ => ([], .node l r)
  | f + 1, .node l r, k => if btK k (255 - f) = 1 then (l.dig :: (wayT f r k).1, (wayT f r k).2) else (r.dig :: (wayT f l k).1, (wayT f l k).2)
end Go.Proofs.YtcfjciencggflaaDoor

/- The walks of what the laws of layer 10 share: a proof out of no tree, the document's example, reads. -/
namespace Go.Proofs.YtcfjciencggflaaDoor
open Go.RowKit PrintLast

theorem halves_nil {w : World} : Calls Tryd.prog 61 #[.pointer none] w fun e w' => e = .returned (.tuple #[.pointer none, .pointer none, .bool false]) ∧ w = w' := by
  go_enter Tryd.func61, Tryd.ntmps61
  go_wp2
  go_ret3
  exact ⟨rfl, rfl⟩
theorem single_nil {w : World} : Calls Tryd.prog 77 #[.pointer none] w fun e w' => e = .returned (.bool false) ∧ w = w' := by
  go_enter Tryd.func77, Tryd.ntmps77
  go_wp2
  go_ret
  exact ⟨rfl, rfl⟩
theorem leaf_nil {w : World} : Calls Tryd.prog 63 #[.pointer none] w fun e w' => e = .returned (.tuple #[.string ⟨#[]⟩, .slice none 0 0, .bool false]) ∧ w = w' := by
  have H := hid (single_nil (w := w))
  go_enter Tryd.func63, Tryd.ntmps63
  go_wp2_with fail
  refine H.out.mono ?_
  rintro e w1 ⟨rfl, rfl⟩
  go_wp2
  go_ret3
  exact ⟨rfl, rfl⟩

theorem halves_nil' {w : World} : Calls Tryd.prog 61 #[.pointer none] w fun e w' => e = .returned (.tuple #[.pointer none, .pointer none, .bool false]) ∧ w = w' := halves_nil
/-- A struct that is handed back by value out of its block. -/
theorem ret_cell_one {P : Program} {fn : Func} {p : Tmp} {ty : TypeId} (h : fn.results = #[.cell p ty]) {tmps : Array Value} {w : World} {g : Nat} {cs : Array Value} {t : TypeId} {fr : Nat × Nat} {d : TypeDesc} (hp : tmps.getD p undef = .pointer (some ⟨g, 0, none⟩)) (hg : w.heap[g]? = some (.cells cs t fr))
    (hu : P.underlying ty = some d) (hd : (match d with | .struct _ | .array _ _ => true | _ => false) = true) (hi : (P.info? ty).map (·.size) = some cs.size) :
    (results fn tmps).run P w = .ok (.agg cs) w := results_cell_row h _ _ g t cs fr d hp hg hu hd hi

set_option maxRecDepth 100000 in
set_option maxHeartbeats 3200000 in
theorem build_nil {w : World} (hT : Table w) {key : ByteArray} (hk : key.size ≤ 1000000) :
    Calls Tryd.prog 39 #[.pointer none, .string key] w fun e w' => e = .returned (.agg #[.slice none 0 0, .int .u8 0, .string ⟨#[]⟩, .slice none 0 0]) ∧ Below w.heap.size w w' := by
  obtain ⟨g0, g1, al⟩ := alloc2 w (.cells #[.slice none 0 0, .int .u8 0, .string ⟨#[]⟩, .slice none 0 0] 52) (.cells #[.slice none 0 0, .int .u8 0, .string ⟨#[]⟩, .slice none 0 0] 52)
  obtain ⟨S, hS⟩ : ∃ S, S = w.heap.size := ⟨_, rfl⟩
  have hT' := hid (hT.below al)
  rw [← hS] at g0 g1 al
  have HS := hid hS
  have ks : key.size ≤ maxLen := by unfold maxLen; omega
  clear hT hS
  go_enter Tryd.func39, Tryd.ntmps39
  go_upto_region 2 with fail
  rw [← HS.out]
  generalize hW : (w.alloc (.cells #[.slice none 0 0, .int .u8 0, .string ⟨#[]⟩, .slice none 0 0] 52)).alloc (.cells #[.slice none 0 0, .int .u8 0, .string ⟨#[]⟩, .slice none 0 0] 52) = W at *
  obtain ⟨S1, hS1⟩ : ∃ S1, S1 = S + 1 := ⟨_, rfl⟩
  rw [← hS1] at g1 ⊢
  have o01 : S < S1 := by omega
  clear hS1 hW
  go_wp2_with (refine wpList_conv rfl (.tmp 13) rfl key rfl ks ?_)
  intro g3 c3 w3 _ q3 b3
  have sW : S ≤ W.heap.size := by have := lt_of_block g0; omega
  have h0 := below_heap b3 g0
  have h1 := below_heap b3 g1
  have B3 := al.trans (b3.mono sW)
  have H := hid (sum_dig (bsz key) (hT'.out.below b3) q3 (by rw [bsz]; omega))
  clear g0 g1 al b3 q3 sW
  go_wp2_with fail
  refine H.out.mono ?_
  rintro e w4 ⟨rfl, b4⟩
  have k0 := below_heap b4 h0
  have k1 := below_heap b4 h1
  have B4 := B3.trans (b4.mono (by have := lt_of_block h0; omega))
  have HH := hid (halves_nil (w := w4))
  have HL := hid (leaf_nil (w := w4))
  obtain ⟨v0, v1, v2, v3, v0', v1', v2', v3'⟩ := four k0
  obtain ⟨u0, u1, u2, u3, -, -, -, -⟩ := four k1
  have G := hid (set4_heap (a := .slice none 0 0) (b := .int .u8 0) (c := .string ⟨#[]⟩) (d := .slice none 0 0) k0)
  have FB := set4_below B4 (Nat.le_refl S) (.slice none 0 0) (.int .u8 0) (.string ⟨#[]⟩) (.slice none 0 0)
  rw [HS.out] at FB
  have HF := hid FB
  clear h0 h1 B3 b4 H k0 k1 B4 FB
  go_wp2
  go_loopw [0] (fun n wr => n = .pointer none ∧ w4 = wr) (fun _ _ => 0)
  case atStart => exact ⟨rfl, rfl⟩
  case round =>
    obtain ⟨rfl, rfl⟩ := hrel
    go_wp2_with fail
    refine HH.out.mono ?_
    rintro e w5 ⟨rfl, rfl⟩
    go_wp2_with fail
    refine HL.out.mono ?_
    rintro e w5 ⟨rfl, rfl⟩
    go_wp2
    refine bodyPost_ret (ret_cell_one rfl rfl G.out Tryd.underlying52 rfl infPP) rfl ?_
    exact ⟨rfl, by rw [HS.out]; exact HF.out⟩

/-- The document's example. -/
def noPrf : Prf := ⟨[], 0, ⟨#[]⟩, []⟩
theorem enc_none : encB noPrf = [0, 0, 0] := by decide
theorem res_none : resB [0, 0, 0] = (0, noPrf) := by rfl

end Go.Proofs.YtcfjciencggflaaDoor

/- A tree in memory; the walks of what reads it. -/
namespace Go.Proofs.YtcfjciencggflaaDoor
open Go.RowKit PrintLast

/-- The digest of a tree, as a string. -/
def digS (t : Tr) : ByteArray := strB t.dig
theorem digS_nil : digS .nil = dig [0] := rfl
theorem digS_leaf (x : Itm) : digS (.leaf x) = dig (leafD x) := rfl
theorem digS_node (l r : Tr) : digS (.node l r) = dig (nodeB l.dig r.dig) := rfl
def pathS (k : ByteArray) : ByteArray := dig k.data.toList
theorem pathS_list (k : ByteArray) : (pathS k).data.toList = pathK k := dig_list _
theorem digS_list (t : Tr) : (digS t).data.toList = t.dig := strB_list _
theorem dig_len (t : Tr) : t.dig.length = 32 := by cases t <;> exact sum256_length _
theorem digS_size (t : Tr) : (digS t).size = 32 := by unfold digS; rw [strB_size, dig_len]

/-- The cells of a node. -/
def ncells (l r : Value) (path key : ByteArray) (row : Value) (d : ByteArray) (n : Nat) : Array Value := #[l, r, .string path, .string key, row, .string d, .int .i64 (n : Int)]
/-- A tree whose blocks lie below N. -/
def TreeAt (w : World) (N : Nat) : Value → Tr → Prop
  | v, .nil => v = .pointer none
  | v, .leaf x => ∃ g B d, v = .pointer (some ⟨g, 0, none⟩) ∧ g < N ∧ w.heap[g]? = some (.cells (ncells (.pointer none) (.pointer none) (pathS x.key) x.key (.slice B x.row.length d) (digS (.leaf x)) 1) 129 (0, 0)) ∧ BSA w B d x.row ∧ (0 < x.row.length → ∃ gb o, B = some ⟨gb, o, none⟩ ∧ gb < N)
  | v, .node l r => ∃ g vl vr, v = .pointer (some ⟨g, 0, none⟩) ∧ g < N ∧ w.heap[g]? = some (.cells (ncells vl vr ⟨#[]⟩ ⟨#[]⟩ (.slice none 0 0) (digS (.node l r)) (l.count + r.count)) 129 (0, 0)) ∧ TreeAt w N vl l ∧ TreeAt w N vr r
theorem bsa_move {w w' : World} {N : Nat} {B : Option Addr} {d : Nat} {l : List UInt8} (h : BSA w B d l) (hb : Below N w w') (h3 : 0 < l.length → ∃ g o, B = some ⟨g, o, none⟩ ∧ g < N) : BSA w' B d l := by
  refine ⟨h.1, h.2.1, h.2.2.1, fun ad e j hj => ?_⟩
  obtain ⟨g, o, e3, hg⟩ := h3 (by omega)
  have hc := h.2.2.2 ad e j hj
  rw [e3] at e
  cases e
  exact (hb.cell (by rw [addr_add_block]; exact hg)).trans hc
theorem TreeAt.move {w w' : World} {N : Nat} {v : Value} {t : Tr} (h : TreeAt w N v t) (hb : Below N w w') : TreeAt w' N v t := by
  induction t generalizing v with
  | nil => exact h
  | leaf x =>
    obtain ⟨g, B, d, h1, h2, h3, h4, h5⟩ := h
    exact ⟨g, B, d, h1, h2, (hb.block g h2).trans h3, bsa_move h4 hb h5, h5⟩
  | node l r ihl ihr =>
    obtain ⟨g, vl, vr, h1, h2, h3, h4, h5⟩ := h
    exact ⟨g, vl, vr, h1, h2, (hb.block g h2).trans h3, ihl h4, ihr h5⟩
theorem TreeAt.raise {w : World} {N N' : Nat} {v : Value} {t : Tr} (h : TreeAt w N v t) (hN : N ≤ N') : TreeAt w N' v t := by
  induction t generalizing v with
  | nil => exact h
  | leaf x =>
    obtain ⟨g, B, d, h1, h2, h3, h4, h5⟩ := h
    refine ⟨g, B, d, h1, by omega, h3, h4, fun h0 => ?_⟩
    obtain ⟨gb, o, e, h6⟩ := h5 h0
    exact ⟨gb, o, e, by omega⟩
  | node l r ihl ihr =>
    obtain ⟨g, vl, vr, h1, h2, h3, h4, h5⟩ := h
    exact ⟨g, vl, vr, h1, by omega, h3, ihl h4, ihr h5⟩
/-- A tree in memory. -/
def Tree (w : World) (v : Value) (t : Tr) : Prop := TreeAt w w.heap.size v t
theorem Tree.below {w w' : World} {v : Value} {t : Tr} (h : Tree w v t) (hb : Below w.heap.size w w') : Tree w' v t := (TreeAt.move h hb).raise hb.size
theorem Tree.nil (w : World) : Tree w (.pointer none) .nil := rfl
theorem TreeAt.ptr {w : World} {N : Nat} {v : Value} {t : Tr} (h : TreeAt w N v t) : (t = .nil ∧ v = .pointer none) ∨ ∃ g, v = .pointer (some ⟨g, 0, none⟩) ∧ t ≠ .nil := by
  cases t with
  | nil => exact .inl ⟨rfl, h⟩
  | leaf x => obtain ⟨g, B, d, h1, _⟩ := h; exact .inr ⟨g, h1, by intro e; cases e⟩
  | node l r => obtain ⟨g, vl, vr, h1, _⟩ := h; exact .inr ⟨g, h1, by intro e; cases e⟩

theorem seven {w : World} {g : Nat} {a b c d e f i : Value} {t : TypeId} (h : w.heap[g]? = some (.cells #[a, b, c, d, e, f, i] t (0, 0))) :
    w.cell? ⟨g, 0, none⟩ = some a ∧ w.cell? ⟨g, 1, none⟩ = some b ∧ w.cell? ⟨g, 2, none⟩ = some c ∧ w.cell? ⟨g, 3, none⟩ = some d ∧ w.cell? ⟨g, 4, none⟩ = some e ∧ w.cell? ⟨g, 5, none⟩ = some f ∧ w.cell? ⟨g, 6, none⟩ = some i :=
  ⟨cell_at h rfl, cell_at h rfl, cell_at h rfl, cell_at h rfl, cell_at h rfl, cell_at h rfl, cell_at h rfl⟩
theorem path_ne (k : ByteArray) : (pathS k).toList.isEmpty = false ∧ ¬ (pathS k).toList = [] := by
  have h : (pathS k).toList.length = 32 := by
    unfold pathS dig
    rw [ByteArray.toList_mk]
    simp [sum256_length]
  constructor
  · cases hl : (pathS k).toList with
    | nil => rw [hl] at h; simp at h
    | cons a l => rfl
  · intro e
    rw [e] at h
    simp at h

set_option maxHeartbeats 1600000 in
theorem single_leaf {w : World} {v : Value} {x : Itm} {N : Nat} (h : TreeAt w N v (.leaf x)) :
    Calls Tryd.prog 77 #[v] w fun e w' => e = .returned (.bool true) ∧ w = w' := by
  obtain ⟨g, B, d, rfl, _, h3, _⟩ := h
  obtain ⟨c0, c1, c2, c3, c4, c5, c6⟩ := seven h3
  obtain ⟨e1, e2⟩ := path_ne x.key
  generalize pathS x.key = p at *
  clear h3 c0 c1 c3 c4 c5 c6
  go_enter Tryd.func77, Tryd.ntmps77
  go_wp2
  go_ret
  exact ⟨rfl, rfl⟩
set_option maxHeartbeats 1600000 in
theorem single_node {w : World} {v : Value} {l r : Tr} {N : Nat} (h : TreeAt w N v (.node l r)) :
    Calls Tryd.prog 77 #[v] w fun e w' => e = .returned (.bool false) ∧ w = w' := by
  obtain ⟨g, vl, vr, rfl, _, h3, _⟩ := h
  obtain ⟨c0, c1, c2, c3, c4, c5, c6⟩ := seven h3
  clear h3 c0 c1 c3 c4 c5 c6
  go_enter Tryd.func77, Tryd.ntmps77
  go_wp2
  go_ret
  exact ⟨rfl, rfl⟩
def isLeaf : Tr → Bool
  | .leaf _ => true
  | _ => false
theorem single_any {w : World} {v : Value} {t : Tr} {N : Nat} (h : TreeAt w N v t) :
    Calls Tryd.prog 77 #[v] w fun e w' => e = .returned (.bool (isLeaf t)) ∧ w = w' := by
  cases t with
  | nil => cases h; exact single_nil
  | leaf x => exact single_leaf h
  | node l r => exact single_node h

set_option maxHeartbeats 1600000 in
theorem len_any {w : World} {v : Value} {t : Tr} {N : Nat} (h : TreeAt w N v t) :
    Calls Tryd.prog 90 #[v] w fun e w' => e = .returned (.int .i64 (t.count : Int)) ∧ w = w' := by
  cases t with
  | nil =>
    cases h
    go_enter Tryd.func90, Tryd.ntmps90
    go_wp2
    go_ret
    exact ⟨rfl, rfl⟩
  | leaf x =>
    obtain ⟨g, B, d, rfl, _, h3, _⟩ := h
    obtain ⟨c0, c1, c2, c3, c4, c5, c6⟩ := seven h3
    clear h3 c0 c1 c2 c3 c4 c5
    go_enter Tryd.func90, Tryd.ntmps90
    go_wp2
    go_ret
    exact ⟨rfl, rfl⟩
  | node l r =>
    obtain ⟨g, vl, vr, rfl, _, h3, _⟩ := h
    obtain ⟨c0, c1, c2, c3, c4, c5, c6⟩ := seven h3
    obtain ⟨n, hn⟩ : ∃ n, n = l.count + r.count := ⟨_, rfl⟩
    rw [← hn] at c6
    have HN := hid hn
    clear h3 c0 c1 c2 c3 c4 c5 hn
    go_enter Tryd.func90, Tryd.ntmps90
    go_wp2
    go_ret
    exact ⟨by rw [show (Tr.node l r).count = n from HN.out.symm]; rfl, rfl⟩

set_option maxHeartbeats 1600000 in
theorem digest_any {w : World} (hT : Table w) {v : Value} {t : Tr} {N : Nat} (h : TreeAt w N v t) :
    Calls Tryd.prog 62 #[v] w fun e w' => e = .returned (.string (digS t)) ∧ Below w.heap.size w w' := by
  cases t with
  | nil =>
    cases h
    have H := hid (empty_any hT)
    go_enter Tryd.func62, Tryd.ntmps62
    go_wp2_with fail
    refine H.out.mono ?_
    rintro e w1 ⟨rfl, b1⟩
    go_wp2
    go_ret
    exact ⟨rfl, b1⟩
  | leaf x =>
    obtain ⟨g, B, d, rfl, _, h3, _⟩ := h
    obtain ⟨c0, c1, c2, c3, c4, c5, c6⟩ := seven h3
    clear h3 c0 c1 c2 c3 c4 c6 hT
    go_enter Tryd.func62, Tryd.ntmps62
    go_wp2
    go_ret
    exact ⟨rfl, Below.refl _ _⟩
  | node l r =>
    obtain ⟨g, vl, vr, rfl, _, h3, _⟩ := h
    obtain ⟨c0, c1, c2, c3, c4, c5, c6⟩ := seven h3
    clear h3 c0 c1 c2 c3 c4 c6 hT
    go_enter Tryd.func62, Tryd.ntmps62
    go_wp2
    go_ret
    exact ⟨rfl, Below.refl _ _⟩

/-- The halves of a tree. -/
def isNode : Tr → Bool
  | .node _ _ => true
  | _ => false
set_option maxHeartbeats 1600000 in
theorem halves_leaf {w : World} {v : Value} {x : Itm} {N : Nat} (h : TreeAt w N v (.leaf x)) :
    Calls Tryd.prog 61 #[v] w fun e w' => e = .returned (.tuple #[.pointer none, .pointer none, .bool false]) ∧ w = w' := by
  have H := hid (single_leaf h)
  obtain ⟨g, B, d, rfl, _⟩ := h
  go_enter Tryd.func61, Tryd.ntmps61
  go_wp2_with fail
  refine H.out.mono ?_
  rintro e w1 ⟨rfl, rfl⟩
  go_wp2
  go_ret3
  exact ⟨rfl, rfl⟩
set_option maxHeartbeats 1600000 in
theorem halves_node {w : World} {v : Value} {l r : Tr} {N : Nat} (h : TreeAt w N v (.node l r)) :
    Calls Tryd.prog 61 #[v] w fun e w' => ∃ vl vr, e = .returned (.tuple #[vl, vr, .bool true]) ∧ TreeAt w' N vl l ∧ TreeAt w' N vr r ∧ Below w.heap.size w w' := by
  have H := hid (single_node h)
  obtain ⟨g, vl, vr, rfl, _, h3, h4, h5⟩ := h
  obtain ⟨c0, c1, c2, c3, c4, c5, c6⟩ := seven h3
  have HL := hid (And.intro h4 h5)
  clear h3 c2 c3 c4 c5 c6 h4 h5
  go_enter Tryd.func61, Tryd.ntmps61
  go_wp2_with fail
  refine H.out.mono ?_
  rintro e w1 ⟨rfl, rfl⟩
  clear H
  go_wp2
  refine start_ (n := 11) (S := fun w' => w'.cell? ⟨g, 0, none⟩ = some vl ∧ w'.cell? ⟨g, 1, none⟩ = some vr) (ds := []) #[false, false, false, false, false, false, false, false, false, false, false] (by kernel_rfl) rfl rfl ⟨c0, c1⟩ (fun hHeld => ?_)
  refine pure_ (i := 0) (N := some 11) (v := ?_) (a' := ?_) #[true, false, false, false, false, false, false, false, false, false, false] rfl rfl (by kernel_rfl) (fun _ _ _ h => h) (Or.inl ⟨by rfl, ?_⟩) ?_ ?_
  rotate_left
  · intro w'
    go_simp
    with_reducible rfl
  rotate_left
  · simp only [Act.put, List.setIfInBounds_toArray, List.set_cons_zero, List.set_cons_succ, i64_w, i32_w]
    rfl
  refine pure_ (i := 1) (N := some 12) (v := ?_) (a' := ?_) #[true, true, false, false, false, false, false, false, false, false, false] rfl rfl (by kernel_rfl) (fun _ _ _ h => h) (Or.inl ⟨by rfl, ?_⟩) ?_ ?_
  rotate_left
  · intro w'
    go_simp
    with_reducible rfl
  rotate_left
  · simp only [Act.put, List.setIfInBounds_toArray, List.set_cons_zero, List.set_cons_succ, i64_w, i32_w]
    rfl
  refine pure_ (i := 2) (N := some 13) (v := ?_) (a' := ?_) #[true, true, true, false, false, false, false, false, false, false, false] rfl rfl (by kernel_rfl) (fun _ _ _ h => h) (Or.inl ⟨by rfl, ?_⟩) ?_ ?_
  rotate_left
  · intro w'
    go_simp
    with_reducible rfl
  rotate_left
  · simp only [Act.put, List.setIfInBounds_toArray, List.set_cons_zero, List.set_cons_succ, i64_w, i32_w]
    rfl
  refine pure_ (i := 4) (N := some 15) (v := ?_) (a' := ?_) #[true, true, true, false, true, false, false, false, false, false, false] rfl rfl (by kernel_rfl) (fun _ _ _ h => h) (Or.inl ⟨by rfl, ?_⟩) ?_ ?_
  rotate_left
  · intro w'
    go_simp
    with_reducible rfl
  rotate_left
  · simp only [Act.put, List.setIfInBounds_toArray, List.set_cons_zero, List.set_cons_succ, i64_w, i32_w]
    rfl
  refine pure_ (i := 5) (N := some 16) (v := ?_) (a' := ?_) #[true, true, true, false, true, true, false, false, false, false, false] rfl rfl (by kernel_rfl) (fun _ _ _ h => h) (Or.inl ⟨by rfl, ?_⟩) ?_ ?_
  rotate_left
  · intro w'
    go_simp
    with_reducible rfl
  rotate_left
  · simp only [Act.put, List.setIfInBounds_toArray, List.set_cons_zero, List.set_cons_succ, i64_w, i32_w]
    rfl
  refine pure_ (i := 6) (N := some 17) (v := ?_) (a' := ?_) #[true, true, true, false, true, true, true, false, false, false, false] rfl rfl (by kernel_rfl) (fun _ _ _ h => h) (Or.inl ⟨by rfl, ?_⟩) ?_ ?_
  rotate_left
  · intro w'
    go_simp
    with_reducible rfl
  rotate_left
  · simp only [Act.put, List.setIfInBounds_toArray, List.set_cons_zero, List.set_cons_succ, i64_w, i32_w]
    rfl
  refine take_ (i := 3) (N := some 14) (v := ?_) (a' := ?_) #[true, true, true, true, true, true, true, false, false, false, false] rfl rfl (by kernel_rfl) (fun _ _ _ h => h) (Or.inl ⟨by rfl, ?_⟩) hHeld ?_ ?_
  rotate_left
  · rintro w' ⟨s0, s1⟩
    go_simp
    with_reducible rfl
  rotate_left
  · simp only [Act.put, List.setIfInBounds_toArray, List.set_cons_zero, List.set_cons_succ, i64_w, i32_w]
    rfl
  refine pure_ (i := 8) (N := some 2) (v := ?_) (a' := ?_) #[true, true, true, true, true, true, true, false, true, false, false] rfl rfl (by kernel_rfl) (fun _ _ _ h => h) (Or.inl ⟨by rfl, ?_⟩) ?_ ?_
  rotate_left
  · intro w'
    go_simp
    with_reducible rfl
  rotate_left
  · simp only [Act.put, List.setIfInBounds_toArray, List.set_cons_zero, List.set_cons_succ, i64_w, i32_w]
    rfl
  refine take_ (i := 7) (N := some 18) (v := ?_) (a' := ?_) #[true, true, true, true, true, true, true, true, true, false, false] rfl rfl (by kernel_rfl) (fun _ _ _ h => h) (Or.inl ⟨by rfl, ?_⟩) hHeld ?_ ?_
  rotate_left
  · rintro w' ⟨s0, s1⟩
    go_simp
    with_reducible rfl
  rotate_left
  · simp only [Act.put, List.setIfInBounds_toArray, List.set_cons_zero, List.set_cons_succ, i64_w, i32_w]
    rfl
  refine pure_ (i := 9) (N := some 3) (v := ?_) (a' := ?_) #[true, true, true, true, true, true, true, true, true, true, false] rfl rfl (by kernel_rfl) (fun _ _ _ h => h) (Or.inl ⟨by rfl, ?_⟩) ?_ ?_
  rotate_left
  · intro w'
    go_simp
    with_reducible rfl
  rotate_left
  · simp only [Act.put, List.setIfInBounds_toArray, List.set_cons_zero, List.set_cons_succ, i64_w, i32_w]
    rfl
  refine pure_ (i := 10) (N := some 4) (v := ?_) (a' := ?_) #[true, true, true, true, true, true, true, true, true, true, true] rfl rfl (by kernel_rfl) (fun _ _ _ h => h) (Or.inl ⟨by rfl, ?_⟩) ?_ ?_
  rotate_left
  · intro w'
    go_simp
    with_reducible rfl
  rotate_left
  · simp only [Act.put, List.setIfInBounds_toArray, List.set_cons_zero, List.set_cons_succ, i64_w, i32_w]
    rfl
  refine done_ (by kernel_rfl) ?_
  go_wp2
  go_ret3
  exact ⟨vl, vr, rfl, HL.out.1.move (Below.refl _ _).drew, HL.out.2.move (Below.refl _ _).drew, (Below.refl _ _).drew⟩

set_option maxHeartbeats 1600000 in
theorem leafOf_leaf {w : World} {v : Value} {x : Itm} {N : Nat} (hx : x.row.length ≤ 1000000) (h : TreeAt w N v (.leaf x)) :
    Calls Tryd.prog 63 #[v] w fun e w' => ∃ A c, e = .returned (.tuple #[.string x.key, .slice A x.row.length c, .bool true]) ∧ Row w' w.heap.size A c x.row ∧ Below w.heap.size w w' := by
  have H := hid (single_leaf h)
  obtain ⟨g, B, d, rfl, _, h3, h4, _⟩ := h
  obtain ⟨c0, c1, c2, c3, c4, c5, c6⟩ := seven h3
  have HC := hid (clone_gave rfl (show BSA w.drew B d x.row from h4) (by omega))
  clear h3 h4 c0 c1 c2 c5 c6
  go_enter Tryd.func63, Tryd.ntmps63
  go_wp2_with fail
  refine H.out.mono ?_
  rintro e w1 ⟨rfl, rfl⟩
  clear H
  go_wp2
  refine start_ (n := 12) (S := fun w' => w'.cell? ⟨g, 3, none⟩ = some (.string x.key) ∧ w'.cell? ⟨g, 4, none⟩ = some (.slice B x.row.length d)) (ds := []) #[false, false, false, false, false, false, false, false, false, false, false, false] (by kernel_rfl) rfl rfl ⟨c3, c4⟩ (fun hHeld => ?_)
  refine pure_ (i := 0) (N := some 8) (v := ?_) (a' := ?_) #[true, false, false, false, false, false, false, false, false, false, false, false] rfl rfl (by kernel_rfl) (fun _ _ _ h => h) (Or.inl ⟨by rfl, ?_⟩) ?_ ?_
  rotate_left
  · intro w'
    go_simp
    with_reducible rfl
  rotate_left
  · simp only [Act.put, List.setIfInBounds_toArray, List.set_cons_zero, List.set_cons_succ, i64_w, i32_w]
    rfl
  refine pure_ (i := 1) (N := some 9) (v := ?_) (a' := ?_) #[true, true, false, false, false, false, false, false, false, false, false, false] rfl rfl (by kernel_rfl) (fun _ _ _ h => h) (Or.inl ⟨by rfl, ?_⟩) ?_ ?_
  rotate_left
  · intro w'
    go_simp
    with_reducible rfl
  rotate_left
  · simp only [Act.put, List.setIfInBounds_toArray, List.set_cons_zero, List.set_cons_succ, i64_w, i32_w]
    rfl
  refine pure_ (i := 2) (N := some 10) (v := ?_) (a' := ?_) #[true, true, true, false, false, false, false, false, false, false, false, false] rfl rfl (by kernel_rfl) (fun _ _ _ h => h) (Or.inl ⟨by rfl, ?_⟩) ?_ ?_
  rotate_left
  · intro w'
    go_simp
    with_reducible rfl
  rotate_left
  · simp only [Act.put, List.setIfInBounds_toArray, List.set_cons_zero, List.set_cons_succ, i64_w, i32_w]
    rfl
  refine pure_ (i := 4) (N := some 12) (v := ?_) (a' := ?_) #[true, true, true, false, true, false, false, false, false, false, false, false] rfl rfl (by kernel_rfl) (fun _ _ _ h => h) (Or.inl ⟨by rfl, ?_⟩) ?_ ?_
  rotate_left
  · intro w'
    go_simp
    with_reducible rfl
  rotate_left
  · simp only [Act.put, List.setIfInBounds_toArray, List.set_cons_zero, List.set_cons_succ, i64_w, i32_w]
    rfl
  refine pure_ (i := 5) (N := some 13) (v := ?_) (a' := ?_) #[true, true, true, false, true, true, false, false, false, false, false, false] rfl rfl (by kernel_rfl) (fun _ _ _ h => h) (Or.inl ⟨by rfl, ?_⟩) ?_ ?_
  rotate_left
  · intro w'
    go_simp
    with_reducible rfl
  rotate_left
  · simp only [Act.put, List.setIfInBounds_toArray, List.set_cons_zero, List.set_cons_succ, i64_w, i32_w]
    rfl
  refine pure_ (i := 6) (N := some 14) (v := ?_) (a' := ?_) #[true, true, true, false, true, true, true, false, false, false, false, false] rfl rfl (by kernel_rfl) (fun _ _ _ h => h) (Or.inl ⟨by rfl, ?_⟩) ?_ ?_
  rotate_left
  · intro w'
    go_simp
    with_reducible rfl
  rotate_left
  · simp only [Act.put, List.setIfInBounds_toArray, List.set_cons_zero, List.set_cons_succ, i64_w, i32_w]
    rfl
  refine take_ (i := 3) (N := some 11) (v := ?_) (a' := ?_) #[true, true, true, true, true, true, true, false, false, false, false, false] rfl rfl (by kernel_rfl) (fun _ _ _ h => h) (Or.inl ⟨by rfl, ?_⟩) hHeld ?_ ?_
  rotate_left
  · rintro w' ⟨s0, s1⟩
    go_simp
    with_reducible rfl
  rotate_left
  · simp only [Act.put, List.setIfInBounds_toArray, List.set_cons_zero, List.set_cons_succ, i64_w, i32_w]
    rfl
  refine take_ (i := 7) (N := some 15) (v := ?_) (a' := ?_) #[true, true, true, true, true, true, true, true, false, false, false, false] rfl rfl (by kernel_rfl) (fun _ _ _ h => h) (Or.inl ⟨by rfl, ?_⟩) hHeld ?_ ?_
  rotate_left
  · rintro w' ⟨s0, s1⟩
    go_simp
    with_reducible rfl
  rotate_left
  · simp only [Act.put, List.setIfInBounds_toArray, List.set_cons_zero, List.set_cons_succ, i64_w, i32_w]
    rfl
  refine one_ (i := 8) (N := some 16) #[true, true, true, true, true, true, true, true, true, false, false, false] rfl rfl (by kernel_rfl) (by decide) (fun K hK => ?_)
  refine goes_ Tryd.func79 (by kernel_rfl) rfl #[.slice B x.row.length d] (by rfl) rfl rfl (by simp only [List.map_toArray, List.map_cons, List.map_nil]; rfl) ?_
  with_reducible refine (HC.out).mono ?_
  rintro e' w1 ⟨A1, a1, rfl, r1, b1⟩
  refine ⟨_, rfl, ?_⟩
  refine hK.out _ _ ⟨(below_cell b1 hHeld.1), (below_cell b1 hHeld.2)⟩ (fun hHeld => ?_)
  clear hK K
  refine norm_ (a' := ?_) ?_ ?_
  rotate_left
  · show Act.put _ (some 16) _ = _
    simp only [Act.put, List.setIfInBounds_toArray, List.set_cons_zero, List.set_cons_succ, i64_w, i32_w]
    rfl
  refine pure_ (i := 9) (N := some 2) (v := ?_) (a' := ?_) #[true, true, true, true, true, true, true, true, true, true, false, false] rfl rfl (by kernel_rfl) (fun _ _ _ h => h) (Or.inl ⟨by rfl, ?_⟩) ?_ ?_
  rotate_left
  · intro w'
    go_simp
    with_reducible rfl
  rotate_left
  · simp only [Act.put, List.setIfInBounds_toArray, List.set_cons_zero, List.set_cons_succ, i64_w, i32_w]
    rfl
  refine pure_ (i := 10) (N := some 3) (v := ?_) (a' := ?_) #[true, true, true, true, true, true, true, true, true, true, true, false] rfl rfl (by kernel_rfl) (fun _ _ _ h => h) (Or.inl ⟨by rfl, ?_⟩) ?_ ?_
  rotate_left
  · intro w'
    go_simp
    with_reducible rfl
  rotate_left
  · simp only [Act.put, List.setIfInBounds_toArray, List.set_cons_zero, List.set_cons_succ, i64_w, i32_w]
    rfl
  refine pure_ (i := 11) (N := some 4) (v := ?_) (a' := ?_) #[true, true, true, true, true, true, true, true, true, true, true, true] rfl rfl (by kernel_rfl) (fun _ _ _ h => h) (Or.inl ⟨by rfl, ?_⟩) ?_ ?_
  rotate_left
  · intro w'
    go_simp
    with_reducible rfl
  rotate_left
  · simp only [Act.put, List.setIfInBounds_toArray, List.set_cons_zero, List.set_cons_succ, i64_w, i32_w]
    rfl
  refine done_ (by kernel_rfl) ?_
  have b2 : Below w.heap.size w w1 := (Below.refl w.heap.size w).drew.trans b1
  go_wp2
  go_ret3
  exact ⟨A1, a1, rfl, r1, b2⟩
set_option maxHeartbeats 1600000 in
theorem leafOf_none {w : World} {v : Value} {t : Tr} {N : Nat} (ht : isLeaf t = false) (h : TreeAt w N v t) :
    Calls Tryd.prog 63 #[v] w fun e w' => e = .returned (.tuple #[.string ⟨#[]⟩, .slice none 0 0, .bool false]) ∧ w = w' := by
  have H0 := single_any h
  rw [ht] at H0
  have H := hid H0
  clear H0 h ht
  go_enter Tryd.func63, Tryd.ntmps63
  go_wp2_with fail
  refine H.out.mono ?_
  rintro e w1 ⟨rfl, rfl⟩
  go_wp2
  go_ret3
  exact ⟨rfl, rfl⟩
end Go.Proofs.YtcfjciencggflaaDoor

/- The walks of what makes trees: leaf, join, half, with. -/
namespace Go.Proofs.YtcfjciencggflaaDoor
open Go.RowKit PrintLast

theorem bitK_any {w : World} {k : ByteArray} {d : Nat} (hd : d ≤ 1000000) :
    Calls Tryd.prog 51 #[.string (pathS k), .int .i64 (d : Int)] w fun e w' => e = .returned (.int .i64 (btK k d)) ∧ w = w' := by
  have := bit_any (w := w) (s := pathS k) (i := (d : Int)) (by rw [pathS_list, path_length]; omega) ⟨by omega, by omega⟩
  rw [pathS_list] at this
  exact this
/-- What a call answers that makes a tree. -/
def Grew (w : World) (t : Tr) (e : Ending) (w' : World) : Prop := ∃ v, e = .returned v ∧ Tree w' v t ∧ Below w.heap.size w w'
theorem sumK {w : World} (hT : Table w) {g c : Nat} {k : ByteArray} (hk : k.size ≤ 1000000) (hp : BSA w (some ⟨g, 0, none⟩) c k.data.toList) :
    Calls Tryd.prog 34 #[.slice (some ⟨g, 0, none⟩) k.size c] w fun e w' => e = .returned (.string (pathS k)) ∧ Below w.heap.size w w' := sum_dig (bsz k) hT hp (by rw [bsz]; omega)

set_option maxHeartbeats 3200000 in
theorem leaf_new {w : World} (hT : Table w) {key : ByteArray} {A : Option Addr} {c n : Nat} {row : List UInt8} (hk : key.size ≤ 1000000) (hn : row.length = n) (hr : n ≤ 1000000) (hA : BSA w A c row) :
    Calls Tryd.prog 76 #[.string key, .slice A n c] w (Grew w (.leaf ⟨key, row⟩)) := by
  have ks : key.size ≤ maxLen := by unfold maxLen; omega
  have TT := hid hT
  have AA := hid hA
  have HN := hid hn
  clear hT hA hn
  go_enter Tryd.func76, Tryd.ntmps76
  go_wp2_with (refine wpList_conv rfl (.tmp 5) rfl key rfl ks ?_)
  intro g1 c1 w1 _ q1 b1
  replace TT := hid (TT.out.below b1)
  replace AA := hid (AA.out.below b1)
  have BB := hid b1
  have H := hid (sumK TT.out hk q1)
  clear b1 q1 ks
  go_wp2_with fail
  refine H.out.mono ?_
  rintro e w2 ⟨rfl, b2⟩
  replace TT := hid (TT.out.below b2)
  replace AA := hid (AA.out.below b2)
  replace BB := hid (below_then BB.out b2)
  have H := hid (clone_gave HN.out AA.out (by rw [HN.out]; omega))
  clear b2
  go_wp2_with fail
  refine H.out.mono ?_
  rintro e w3 ⟨A3, c3, rfl, r3, b3⟩
  rw [HN.out]
  replace TT := hid (TT.out.below b3)
  replace AA := hid (AA.out.below b3)
  replace BB := hid (below_then BB.out b3)
  have RR := hid r3
  have H0 := leaf_any TT.out hk (by rw [HN.out]; exact hr) AA.out
  rw [HN.out] at H0
  have H := hid H0
  clear b3 r3 H0
  go_wp2_with fail
  refine H.out.mono ?_
  rintro e w4 ⟨rfl, b4⟩
  replace RR := hid (RR.out.below b4)
  replace BB := hid (below_then BB.out b4)
  obtain ⟨P, hP⟩ : ∃ P, P = pathS key := ⟨_, rfl⟩
  obtain ⟨D, hD⟩ : ∃ D, D = dig (leafB key.data.toList row) := ⟨_, rfl⟩
  rw [← hP, ← hD]
  have al := below_alloc (Below.refl _ w4) (.cells #[.pointer none, .pointer none, .string P, .string key, .slice A3 n c3, .string D, .int .i64 1] 129)
  have gb := heap_alloc_new w4 (.cells #[.pointer none, .pointer none, .string P, .string key, .slice A3 n c3, .string D, .int .i64 1] 129)
  have R5 := RR.out.below al
  have FIN : Hid (Tree (w4.alloc (.cells #[.pointer none, .pointer none, .string P, .string key, .slice A3 n c3, .string D, .int .i64 1] 129)) (.pointer (some ⟨w4.heap.size, 0, none⟩)) (.leaf ⟨key, row⟩)) := hid (by
    refine ⟨w4.heap.size, A3, c3, rfl, by simp, ?_, R5.bsa, fun h0 => ?_⟩
    · rw [gb, hP, hD]
      show _ = some (Obj.cells (ncells _ _ _ _ (.slice A3 row.length c3) _ _) _ _)
      rw [HN.out]
      rfl
    · obtain ⟨g, rfl⟩ := R5.place h0
      obtain ⟨cur, hg, _, _⟩ := R5.heap
      exact ⟨g, 0, rfl, lt_of_block hg⟩)
  have B5 := hid (below_then BB.out al)
  clear al gb R5 hP hD H b4
  go_wp2
  go_ret
  exact ⟨_, rfl, FIN.out, B5.out⟩

theorem half_any {w : World} {N : Nat} {v : Value} {l r : Tr} {k : ByteArray} {d : Nat} (hd : d ≤ 1000000) (h : TreeAt w N v (.node l r)) :
    Calls Tryd.prog 85 #[v, .string (pathS k), .int .i64 (d : Int)] w fun e w' => ∃ v', e = .returned v' ∧ TreeAt w N v' (if btK k d = 0 then l else r) ∧ w = w' := by
  have H := hid (bitK_any (w := w) (k := k) hd)
  obtain ⟨g, vl, vr, rfl, _, h3, h4, h5⟩ := h
  obtain ⟨c0, c1, -, -, -, -, -⟩ := seven h3
  have HL := hid (And.intro h4 h5)
  obtain ⟨b, hb⟩ : ∃ b, b = btK k d := ⟨_, rfl⟩
  have b2 := btK_two k d
  rw [← hb] at H b2 ⊢
  obtain ⟨P, hP⟩ : ∃ P, P = pathS k := ⟨_, rfl⟩
  rw [← hP] at H ⊢
  clear h3 h4 h5 hb hP
  rcases b2 with rfl | rfl
  all_goals
    go_enter Tryd.func85, Tryd.ntmps85
    go_wp2_with fail
    refine H.out.mono ?_
    rintro e w1 ⟨rfl, rfl⟩
    go_wp2
    go_ret
  · exact ⟨vl, rfl, HL.out.1, rfl⟩
  · exact ⟨vr, rfl, HL.out.2, rfl⟩

/-- A tree that may be joined. -/
def Fine (t : Tr) : Prop := t.Wf ∧ t.count ≤ 1000000000

set_option maxRecDepth 100000 in
set_option maxHeartbeats 6400000 in
theorem join_nil_some {w : World} (hT : Table w) {gl gr : Nat} {l r : Tr} (hl' : Tree w (.pointer none) l) (hr' : Tree w (.pointer (some ⟨gr, 0, none⟩)) r) (hll : isLeaf l = false ∨ True) (hrl : isLeaf r = false ∨ False) (hc : 0 < l.count + r.count) (hcl : l.count ≤ 1000000000) (hcr : r.count ≤ 1000000000) :
    Calls Tryd.prog 89 #[.pointer none, .pointer (some ⟨gr, 0, none⟩)] w (Grew w (.node l r)) := by
  have TT := hid hT
  have LL := hid hl'
  have RR := hid hr'
  replace hrl : isLeaf r = false := by simpa using hrl
  clear hll
  have H1 := hid (len_any hl')
  have H2 := hid (len_any hr')
  obtain ⟨lc, hlc⟩ : ∃ lc, lc = l.count := ⟨_, rfl⟩
  obtain ⟨rc, hrc⟩ : ∃ rc, rc = r.count := ⟨_, rfl⟩
  rw [← hlc] at H1 hc hcl
  rw [← hrc] at H2 hc hcr
  have CN := hid (And.intro hlc hrc)
  have t0 : ((lc : Int) + (rc : Int) == 0) = false := by rw [beq_eq_false_iff_ne]; omega
  clear hlc hrc hT
  go_enter Tryd.func89, Tryd.ntmps89
  go_wp2_with fail
  refine H1.out.mono ?_
  rintro e w1 ⟨rfl, rfl⟩
  go_wp2_with fail
  refine H2.out.mono ?_
  rintro e w2 ⟨rfl, rfl⟩
  clear H1 H2
  have HS := hid (single_any hr')
  rw [hrl] at HS
  go_wp2_with fail
  refine HS.out.mono ?_
  rintro e w3 ⟨rfl, rfl⟩
  clear HS
  have HD := hid (digest_any TT.out LL.out)
  go_wp2_with fail
  refine HD.out.mono ?_
  rintro e w4 ⟨rfl, b4⟩
  replace TT := hid (TT.out.below b4)
  replace LL := hid (Tree.below LL.out b4)
  replace RR := hid (Tree.below RR.out b4)
  have BB := hid b4
  clear b4 HD
  have HD := hid (digest_any TT.out RR.out)
  go_wp2_with fail
  refine HD.out.mono ?_
  rintro e w5 ⟨rfl, b5⟩
  replace TT := hid (TT.out.below b5)
  replace LL := hid (Tree.below LL.out b5)
  replace RR := hid (Tree.below RR.out b5)
  replace BB := hid (below_then BB.out b5)
  clear b5 HD
  have HD := hid (node_any (a := digS l) (b := digS r) TT.out (by rw [digS_size]; omega) (by rw [digS_size]; omega))
  go_wp2_with fail
  refine HD.out.mono ?_
  rintro e w6 ⟨rfl, b6⟩
  replace LL := hid (Tree.below LL.out b6)
  replace RR := hid (Tree.below RR.out b6)
  replace BB := hid (below_then BB.out b6)
  clear b6 HD
  rw [digS_list, digS_list]
  obtain ⟨D, hD⟩ : ∃ D, D = dig (nodeB l.dig r.dig) := ⟨_, rfl⟩
  rw [← hD]
  obtain ⟨sn, hsn⟩ : ∃ sn, sn = lc + rc := ⟨_, rfl⟩
  have esn : (lc : Int) + (rc : Int) = (sn : Int) := by omega
  have al := below_alloc (Below.refl _ w6) (.cells #[.pointer none, .pointer (some ⟨gr, 0, none⟩), .string ⟨#[]⟩, .string ⟨#[]⟩, .slice none 0 0, .string D, .int .i64 (sn : Int)] 129)
  have gb := heap_alloc_new w6 (.cells #[.pointer none, .pointer (some ⟨gr, 0, none⟩), .string ⟨#[]⟩, .string ⟨#[]⟩, .slice none 0 0, .string D, .int .i64 (sn : Int)] 129)
  have FIN : Hid (Tree (w6.alloc (.cells #[.pointer none, .pointer (some ⟨gr, 0, none⟩), .string ⟨#[]⟩, .string ⟨#[]⟩, .slice none 0 0, .string D, .int .i64 (sn : Int)] 129)) (.pointer (some ⟨w6.heap.size, 0, none⟩)) (.node l r)) := hid (by
    refine ⟨w6.heap.size, .pointer none, .pointer (some ⟨gr, 0, none⟩), rfl, by simp, ?_, Tree.below LL.out al, Tree.below RR.out al⟩
    rw [gb, hD, hsn, CN.out.1, CN.out.2]
    rfl)
  have B7 := hid (below_then BB.out al)
  clear al gb hD hsn
  try rw [esn]
  clear esn
  go_wp2
  go_ret
  exact ⟨_, rfl, FIN.out, B7.out⟩

set_option maxRecDepth 100000 in
set_option maxHeartbeats 6400000 in
theorem join_some_nil {w : World} (hT : Table w) {gl gr : Nat} {l r : Tr} (hl' : Tree w (.pointer (some ⟨gl, 0, none⟩)) l) (hr' : Tree w (.pointer none) r) (hll : isLeaf l = false ∨ False) (hrl : isLeaf r = false ∨ True) (hc : 0 < l.count + r.count) (hcl : l.count ≤ 1000000000) (hcr : r.count ≤ 1000000000) :
    Calls Tryd.prog 89 #[.pointer (some ⟨gl, 0, none⟩), .pointer none] w (Grew w (.node l r)) := by
  have TT := hid hT
  have LL := hid hl'
  have RR := hid hr'
  clear hrl
  replace hll : isLeaf l = false := by simpa using hll
  have H1 := hid (len_any hl')
  have H2 := hid (len_any hr')
  obtain ⟨lc, hlc⟩ : ∃ lc, lc = l.count := ⟨_, rfl⟩
  obtain ⟨rc, hrc⟩ : ∃ rc, rc = r.count := ⟨_, rfl⟩
  rw [← hlc] at H1 hc hcl
  rw [← hrc] at H2 hc hcr
  have CN := hid (And.intro hlc hrc)
  have t0 : ((lc : Int) + (rc : Int) == 0) = false := by rw [beq_eq_false_iff_ne]; omega
  clear hlc hrc hT
  go_enter Tryd.func89, Tryd.ntmps89
  go_wp2_with fail
  refine H1.out.mono ?_
  rintro e w1 ⟨rfl, rfl⟩
  go_wp2_with fail
  refine H2.out.mono ?_
  rintro e w2 ⟨rfl, rfl⟩
  clear H1 H2
  have HS := hid (single_any hl')
  rw [hll] at HS
  go_wp2_with fail
  refine HS.out.mono ?_
  rintro e w3 ⟨rfl, rfl⟩
  clear HS
  have HD := hid (digest_any TT.out LL.out)
  go_wp2_with fail
  refine HD.out.mono ?_
  rintro e w4 ⟨rfl, b4⟩
  replace TT := hid (TT.out.below b4)
  replace LL := hid (Tree.below LL.out b4)
  replace RR := hid (Tree.below RR.out b4)
  have BB := hid b4
  clear b4 HD
  have HD := hid (digest_any TT.out RR.out)
  go_wp2_with fail
  refine HD.out.mono ?_
  rintro e w5 ⟨rfl, b5⟩
  replace TT := hid (TT.out.below b5)
  replace LL := hid (Tree.below LL.out b5)
  replace RR := hid (Tree.below RR.out b5)
  replace BB := hid (below_then BB.out b5)
  clear b5 HD
  have HD := hid (node_any (a := digS l) (b := digS r) TT.out (by rw [digS_size]; omega) (by rw [digS_size]; omega))
  go_wp2_with fail
  refine HD.out.mono ?_
  rintro e w6 ⟨rfl, b6⟩
  replace LL := hid (Tree.below LL.out b6)
  replace RR := hid (Tree.below RR.out b6)
  replace BB := hid (below_then BB.out b6)
  clear b6 HD
  rw [digS_list, digS_list]
  obtain ⟨D, hD⟩ : ∃ D, D = dig (nodeB l.dig r.dig) := ⟨_, rfl⟩
  rw [← hD]
  obtain ⟨sn, hsn⟩ : ∃ sn, sn = lc + rc := ⟨_, rfl⟩
  have esn : (lc : Int) + (rc : Int) = (sn : Int) := by omega
  have al := below_alloc (Below.refl _ w6) (.cells #[.pointer (some ⟨gl, 0, none⟩), .pointer none, .string ⟨#[]⟩, .string ⟨#[]⟩, .slice none 0 0, .string D, .int .i64 (sn : Int)] 129)
  have gb := heap_alloc_new w6 (.cells #[.pointer (some ⟨gl, 0, none⟩), .pointer none, .string ⟨#[]⟩, .string ⟨#[]⟩, .slice none 0 0, .string D, .int .i64 (sn : Int)] 129)
  have FIN : Hid (Tree (w6.alloc (.cells #[.pointer (some ⟨gl, 0, none⟩), .pointer none, .string ⟨#[]⟩, .string ⟨#[]⟩, .slice none 0 0, .string D, .int .i64 (sn : Int)] 129)) (.pointer (some ⟨w6.heap.size, 0, none⟩)) (.node l r)) := hid (by
    refine ⟨w6.heap.size, .pointer (some ⟨gl, 0, none⟩), .pointer none, rfl, by simp, ?_, Tree.below LL.out al, Tree.below RR.out al⟩
    rw [gb, hD, hsn, CN.out.1, CN.out.2]
    rfl)
  have B7 := hid (below_then BB.out al)
  clear al gb hD hsn
  try rw [esn]
  clear esn
  go_wp2
  go_ret
  exact ⟨_, rfl, FIN.out, B7.out⟩

set_option maxRecDepth 100000 in
set_option maxHeartbeats 6400000 in
theorem join_some {w : World} (hT : Table w) {gl gr : Nat} {l r : Tr} (hl' : Tree w (.pointer (some ⟨gl, 0, none⟩)) l) (hr' : Tree w (.pointer (some ⟨gr, 0, none⟩)) r) (hll : isLeaf l = false ∨ True) (hrl : isLeaf r = false ∨ True) (hc : 0 < l.count + r.count) (hcl : l.count ≤ 1000000000) (hcr : r.count ≤ 1000000000) :
    Calls Tryd.prog 89 #[.pointer (some ⟨gl, 0, none⟩), .pointer (some ⟨gr, 0, none⟩)] w (Grew w (.node l r)) := by
  have TT := hid hT
  have LL := hid hl'
  have RR := hid hr'
  clear hrl
  clear hll
  have H1 := hid (len_any hl')
  have H2 := hid (len_any hr')
  obtain ⟨lc, hlc⟩ : ∃ lc, lc = l.count := ⟨_, rfl⟩
  obtain ⟨rc, hrc⟩ : ∃ rc, rc = r.count := ⟨_, rfl⟩
  rw [← hlc] at H1 hc hcl
  rw [← hrc] at H2 hc hcr
  have CN := hid (And.intro hlc hrc)
  have t0 : ((lc : Int) + (rc : Int) == 0) = false := by rw [beq_eq_false_iff_ne]; omega
  clear hlc hrc hT
  go_enter Tryd.func89, Tryd.ntmps89
  go_wp2_with fail
  refine H1.out.mono ?_
  rintro e w1 ⟨rfl, rfl⟩
  go_wp2_with fail
  refine H2.out.mono ?_
  rintro e w2 ⟨rfl, rfl⟩
  clear H1 H2
  have HD := hid (digest_any TT.out LL.out)
  go_wp2_with fail
  refine HD.out.mono ?_
  rintro e w4 ⟨rfl, b4⟩
  replace TT := hid (TT.out.below b4)
  replace LL := hid (Tree.below LL.out b4)
  replace RR := hid (Tree.below RR.out b4)
  have BB := hid b4
  clear b4 HD
  have HD := hid (digest_any TT.out RR.out)
  go_wp2_with fail
  refine HD.out.mono ?_
  rintro e w5 ⟨rfl, b5⟩
  replace TT := hid (TT.out.below b5)
  replace LL := hid (Tree.below LL.out b5)
  replace RR := hid (Tree.below RR.out b5)
  replace BB := hid (below_then BB.out b5)
  clear b5 HD
  have HD := hid (node_any (a := digS l) (b := digS r) TT.out (by rw [digS_size]; omega) (by rw [digS_size]; omega))
  go_wp2_with fail
  refine HD.out.mono ?_
  rintro e w6 ⟨rfl, b6⟩
  replace LL := hid (Tree.below LL.out b6)
  replace RR := hid (Tree.below RR.out b6)
  replace BB := hid (below_then BB.out b6)
  clear b6 HD
  rw [digS_list, digS_list]
  obtain ⟨D, hD⟩ : ∃ D, D = dig (nodeB l.dig r.dig) := ⟨_, rfl⟩
  rw [← hD]
  obtain ⟨sn, hsn⟩ : ∃ sn, sn = lc + rc := ⟨_, rfl⟩
  have esn : (lc : Int) + (rc : Int) = (sn : Int) := by omega
  have al := below_alloc (Below.refl _ w6) (.cells #[.pointer (some ⟨gl, 0, none⟩), .pointer (some ⟨gr, 0, none⟩), .string ⟨#[]⟩, .string ⟨#[]⟩, .slice none 0 0, .string D, .int .i64 (sn : Int)] 129)
  have gb := heap_alloc_new w6 (.cells #[.pointer (some ⟨gl, 0, none⟩), .pointer (some ⟨gr, 0, none⟩), .string ⟨#[]⟩, .string ⟨#[]⟩, .slice none 0 0, .string D, .int .i64 (sn : Int)] 129)
  have FIN : Hid (Tree (w6.alloc (.cells #[.pointer (some ⟨gl, 0, none⟩), .pointer (some ⟨gr, 0, none⟩), .string ⟨#[]⟩, .string ⟨#[]⟩, .slice none 0 0, .string D, .int .i64 (sn : Int)] 129)) (.pointer (some ⟨w6.heap.size, 0, none⟩)) (.node l r)) := hid (by
    refine ⟨w6.heap.size, .pointer (some ⟨gl, 0, none⟩), .pointer (some ⟨gr, 0, none⟩), rfl, by simp, ?_, Tree.below LL.out al, Tree.below RR.out al⟩
    rw [gb, hD, hsn, CN.out.1, CN.out.2]
    rfl)
  have B7 := hid (below_then BB.out al)
  clear al gb hD hsn
  try rw [esn]
  clear esn
  go_wp2
  go_ret
  exact ⟨_, rfl, FIN.out, B7.out⟩

set_option maxHeartbeats 3200000 in
theorem join_nils {w : World} : Calls Tryd.prog 89 #[.pointer none, .pointer none] w (Grew w .nil) := by
  have H1 : Hid (Calls Tryd.prog 90 #[.pointer none] w fun e w' => e = .returned (.int .i64 0) ∧ w = w') := hid (len_any (Tree.nil w))
  have HS := hid (single_nil (w := w))
  go_enter Tryd.func89, Tryd.ntmps89
  go_wp2_with fail
  refine H1.out.mono ?_
  rintro e w1 ⟨rfl, rfl⟩
  go_wp2_with fail
  refine H1.out.mono ?_
  rintro e w1 ⟨rfl, rfl⟩
  go_wp2_with fail
  refine HS.out.mono ?_
  rintro e w1 ⟨rfl, rfl⟩
  go_wp2_with fail
  refine HS.out.mono ?_
  rintro e w1 ⟨rfl, rfl⟩
  go_wp2
  go_ret
  exact ⟨_, rfl, Tree.nil w, Below.refl _ _⟩
set_option maxHeartbeats 3200000 in
theorem join_nil_leaf {w : World} {gr : Nat} {x : Itm} (hr : Tree w (.pointer (some ⟨gr, 0, none⟩)) (.leaf x)) : Calls Tryd.prog 89 #[.pointer none, .pointer (some ⟨gr, 0, none⟩)] w (Grew w (.leaf x)) := by
  have H1 : Hid (Calls Tryd.prog 90 #[.pointer none] w fun e w' => e = .returned (.int .i64 0) ∧ w = w') := hid (len_any (Tree.nil w))
  have H2 := hid (len_any hr)
  have HS := hid (single_leaf hr)
  have RR := hid hr
  clear hr
  go_enter Tryd.func89, Tryd.ntmps89
  go_wp2_with fail
  refine H1.out.mono ?_
  rintro e w1 ⟨rfl, rfl⟩
  go_wp2_with fail
  refine H2.out.mono ?_
  rintro e w1 ⟨rfl, rfl⟩
  go_wp2_with fail
  refine HS.out.mono ?_
  rintro e w1 ⟨rfl, rfl⟩
  go_wp2
  go_ret
  exact ⟨_, rfl, RR.out, Below.refl _ _⟩
set_option maxHeartbeats 3200000 in
theorem join_leaf_nil {w : World} {gl : Nat} {x : Itm} (hl : Tree w (.pointer (some ⟨gl, 0, none⟩)) (.leaf x)) : Calls Tryd.prog 89 #[.pointer (some ⟨gl, 0, none⟩), .pointer none] w (Grew w (.leaf x)) := by
  have H1 : Hid (Calls Tryd.prog 90 #[.pointer none] w fun e w' => e = .returned (.int .i64 0) ∧ w = w') := hid (len_any (Tree.nil w))
  have H2 := hid (len_any hl)
  have HS := hid (single_leaf hl)
  have RR := hid hl
  clear hl
  go_enter Tryd.func89, Tryd.ntmps89
  go_wp2_with fail
  refine H2.out.mono ?_
  rintro e w1 ⟨rfl, rfl⟩
  go_wp2_with fail
  refine H1.out.mono ?_
  rintro e w1 ⟨rfl, rfl⟩
  go_wp2_with fail
  refine HS.out.mono ?_
  rintro e w1 ⟨rfl, rfl⟩
  go_wp2
  go_ret
  exact ⟨_, rfl, RR.out, Below.refl _ _⟩
theorem joinT_any {w : World} (hT : Table w) {vl vr : Value} {l r : Tr} (hl : Tree w vl l) (hr : Tree w vr r) (fl : Fine l) (fr : Fine r) :
    Calls Tryd.prog 89 #[vl, vr] w (Grew w (joinT l r)) := by
  have pos : ∀ t : Tr, t.Wf → t ≠ .nil → 0 < t.count := by
    intro t ht hn
    cases t with
    | nil => exact absurd rfl hn
    | leaf x => exact Nat.one_pos
    | node a b => exact ht.1
  rcases TreeAt.ptr hl with ⟨rfl, rfl⟩ | ⟨gl, rfl, nl⟩
  · rcases TreeAt.ptr hr with ⟨rfl, rfl⟩ | ⟨gr, rfl, nr⟩
    · exact join_nils
    · cases r with
      | nil => exact absurd rfl nr
      | leaf x => exact join_nil_leaf hr
      | node a b => exact join_nil_some (gl := 0) hT hl hr (.inl rfl) (.inl rfl) (by have := pos _ fr.1 nr; omega) fl.2 fr.2
  · rcases TreeAt.ptr hr with ⟨rfl, rfl⟩ | ⟨gr, rfl, nr⟩
    · cases l with
      | nil => exact absurd rfl nl
      | leaf x => exact join_leaf_nil hl
      | node a b => exact join_some_nil (gr := 0) hT hl hr (.inl rfl) (.inl rfl) (by have := pos _ fl.1 nl; omega) fl.2 fr.2
    · have e : joinT l r = .node l r := by
        cases l with
        | nil => exact absurd rfl nl
        | leaf x => cases r with
          | nil => exact absurd rfl nr
          | leaf y => rfl
          | node a b => rfl
        | node a b => rfl
      rw [e]
      exact join_some hT hl hr (.inr trivial) (.inr trivial) (by have := pos _ fl.1 nl; omega) fl.2 fr.2

set_option maxHeartbeats 3200000 in
theorem with_any {w : World} (hT : Table w) {v vx : Value} {l r x : Tr} {k : ByteArray} {d : Nat} (hd : d ≤ 1000000) (h : Tree w v (.node l r)) (hx : Tree w vx x) (fl : Fine l) (fr : Fine r) (fx : Fine x) :
    Calls Tryd.prog 84 #[v, .string (pathS k), .int .i64 (d : Int), vx] w (Grew w (if btK k d = 0 then joinT x r else joinT l x)) := by
  have H := hid (bitK_any (w := w) (k := k) hd)
  obtain ⟨g, vl, vr, rfl, _, h3, h4, h5⟩ := h
  obtain ⟨c0, c1, -, -, -, -, -⟩ := seven h3
  have J1 := hid (joinT_any hT hx h5 fx fr)
  have J2 := hid (joinT_any hT h4 hx fl fx)
  obtain ⟨b, hb⟩ : ∃ b, b = btK k d := ⟨_, rfl⟩
  have b2 := btK_two k d
  rw [← hb] at H b2 ⊢
  obtain ⟨P, hP⟩ : ∃ P, P = pathS k := ⟨_, rfl⟩
  rw [← hP] at H ⊢
  clear h3 h4 h5 hb hP hT hx
  rcases b2 with rfl | rfl
  · go_enter Tryd.func84, Tryd.ntmps84
    go_wp2_with fail
    refine H.out.mono ?_
    rintro e w1 ⟨rfl, rfl⟩
    go_wp2_with fail
    refine J1.out.mono ?_
    rintro e w1 ⟨v', rfl, t1, b1⟩
    go_wp2
    go_ret
    exact ⟨v', rfl, t1, b1⟩
  · go_enter Tryd.func84, Tryd.ntmps84
    go_wp2_with fail
    refine H.out.mono ?_
    rintro e w1 ⟨rfl, rfl⟩
    go_wp2_with fail
    refine J2.out.mono ?_
    rintro e w1 ⟨v', rfl, t1, b1⟩
    go_wp2
    go_ret
    exact ⟨v', rfl, t1, b1⟩
end Go.Proofs.YtcfjciencggflaaDoor

/- The walks of apart, put, del. -/
namespace Go.Proofs.YtcfjciencggflaaDoor
open Go.RowKit PrintLast

theorem fine_tree {f : Nat} {l : List Itm} (hf : f ≤ 256) (hg : Good f l) (hl : l.length ≤ 1000000000) : Fine (treeF f l) := ⟨treeF_wf f hf hg, by rw [treeF_count f hf hg]; exact hl⟩
theorem bit_is {k : ByteArray} {d : Nat} {b : Int} (hd : d ≤ 1000000) (h : btK k d = b) : ∀ w : World, Calls Tryd.prog 51 #[.string (pathS k), .int .i64 (d : Int)] w fun e w' => e = .returned (.int .i64 b) ∧ w = w' := fun w => by
  have := bitK_any (w := w) (k := k) hd
  rw [h] at this
  exact this
theorem Grew.cast {w w' : World} {t t' : Tr} {e : Ending} (h : Grew w t e w') (ht : t = t') : Grew w t' e w' := ht ▸ h
theorem halfI_length_le (l : List Itm) (d : Nat) (b : Int) : (halfI l d b).length ≤ l.length := List.length_filter_le _ _

set_option maxRecDepth 100000 in
set_option maxHeartbeats 12800000 in
theorem apart_walk (f : Nat) : ∀ (w : World) (va vb : Value) (a b : Itm) (d : Nat), Table w → Tree w va (.leaf a) → Tree w vb (.leaf b) → Good f [a, b] → d + f = 256 →
    Calls Tryd.prog 86 #[va, vb, .int .i64 (d : Int)] w (Grew w (treeF f [a, b])) := by
  induction f with
  | zero =>
    intro w va vb a b d _ _ _ hg _
    have := hg.few
    simp at this
  | succ f ih =>
    intro w va vb a b d hT ha hb hg hd
    have hdf : 255 - f = d := by omega
    have J := join_tree hg (by omega)
    rw [hdf, half_two, half_two] at J
    have g0 := hg.half 0 (by omega)
    have g1 := hg.half 1 (by omega)
    rw [hdf, half_two] at g0 g1
    have TT := hid (hT.below (Below.refl _ w).drew)
    have AA := hid (Tree.below ha (Below.refl _ w).drew)
    have BB := hid (Tree.below hb (Below.refl _ w).drew)
    obtain ⟨ga, Ba, da, rfl, _, h3a, _⟩ := ha
    obtain ⟨gb, Bb, db, rfl, _, h3b, _⟩ := hb
    obtain ⟨-, -, ca, -, -, -, -⟩ := seven h3a
    obtain ⟨-, -, cb, -, -, -, -⟩ := seven h3b
    have hd2 : d ≤ 255 := by omega
    have hd' : (d + 1) + f = 256 := by omega
    have IH := hid ih
    have HD' := hid hd'
    clear hT h3a h3b hdf hd hd' ih
    rcases btK_two a.key d with h1 | h1 <;> rcases btK_two b.key d with h2 | h2
    · have HA := hid (bit_is (by omega) h1)
      have HB := hid (bit_is (by omega) h2)
      simp only [h1, h2, if_true, List.cons_append, List.nil_append, show (0 : Int) ≠ 1 by decide, show (1 : Int) ≠ 0 by decide, if_false, List.append_nil] at J g0 g1
      have HJ := hid J
      have G0 := hid g0
      have G1 := hid g1
      obtain ⟨pa, hpa⟩ : ∃ p, p = pathS a.key := ⟨_, rfl⟩
      obtain ⟨pb, hpb⟩ : ∃ p, p = pathS b.key := ⟨_, rfl⟩
      rw [← hpa] at ca HA
      rw [← hpb] at cb HB
      clear h1 h2 J g0 g1 hpa hpb
      go_enter Tryd.func86, Tryd.ntmps86
      go_wp2
      refine start_ (n := 14) (S := fun w' => w'.cell? ⟨ga, 2, none⟩ = some (.string pa) ∧ w'.cell? ⟨gb, 2, none⟩ = some (.string pb)) (ds := []) #[false, false, false, false, false, false, false, false, false, false, false, false, false, false] (by kernel_rfl) rfl rfl ⟨ca, cb⟩ (fun hHeld => ?_)
      refine pure_ (i := 0) (N := some 11) (v := ?_) (a' := ?_) #[true, false, false, false, false, false, false, false, false, false, false, false, false, false] rfl rfl (by kernel_rfl) (fun _ _ _ h => h) (Or.inl ⟨by rfl, ?_⟩) ?_ ?_
      rotate_left
      · intro w'
        go_simp
        with_reducible rfl
      rotate_left
      · simp only [Act.put, List.setIfInBounds_toArray, List.set_cons_zero, List.set_cons_succ, i64_w, i32_w]
        rfl
      refine pure_ (i := 1) (N := some 12) (v := ?_) (a' := ?_) #[true, true, false, false, false, false, false, false, false, false, false, false, false, false] rfl rfl (by kernel_rfl) (fun _ _ _ h => h) (Or.inl ⟨by rfl, ?_⟩) ?_ ?_
      rotate_left
      · intro w'
        go_simp
        with_reducible rfl
      rotate_left
      · simp only [Act.put, List.setIfInBounds_toArray, List.set_cons_zero, List.set_cons_succ, i64_w, i32_w]
        rfl
      refine pure_ (i := 2) (N := some 13) (v := ?_) (a' := ?_) #[true, true, true, false, false, false, false, false, false, false, false, false, false, false] rfl rfl (by kernel_rfl) (fun _ _ _ h => h) (Or.inl ⟨by rfl, ?_⟩) ?_ ?_
      rotate_left
      · intro w'
        go_simp
        with_reducible rfl
      rotate_left
      · simp only [Act.put, List.setIfInBounds_toArray, List.set_cons_zero, List.set_cons_succ, i64_w, i32_w]
        rfl
      refine pure_ (i := 4) (N := some 15) (v := ?_) (a' := ?_) #[true, true, true, false, true, false, false, false, false, false, false, false, false, false] rfl rfl (by kernel_rfl) (fun _ _ _ h => h) (Or.inl ⟨by rfl, ?_⟩) ?_ ?_
      rotate_left
      · intro w'
        go_simp
        with_reducible rfl
      rotate_left
      · simp only [Act.put, List.setIfInBounds_toArray, List.set_cons_zero, List.set_cons_succ, i64_w, i32_w]
        rfl
      refine pure_ (i := 6) (N := some 17) (v := ?_) (a' := ?_) #[true, true, true, false, true, false, true, false, false, false, false, false, false, false] rfl rfl (by kernel_rfl) (fun _ _ _ h => h) (Or.inl ⟨by rfl, ?_⟩) ?_ ?_
      rotate_left
      · intro w'
        go_simp
        with_reducible rfl
      rotate_left
      · simp only [Act.put, List.setIfInBounds_toArray, List.set_cons_zero, List.set_cons_succ, i64_w, i32_w]
        rfl
      refine pure_ (i := 7) (N := some 18) (v := ?_) (a' := ?_) #[true, true, true, false, true, false, true, true, false, false, false, false, false, false] rfl rfl (by kernel_rfl) (fun _ _ _ h => h) (Or.inl ⟨by rfl, ?_⟩) ?_ ?_
      rotate_left
      · intro w'
        go_simp
        with_reducible rfl
      rotate_left
      · simp only [Act.put, List.setIfInBounds_toArray, List.set_cons_zero, List.set_cons_succ, i64_w, i32_w]
        rfl
      refine pure_ (i := 8) (N := some 19) (v := ?_) (a' := ?_) #[true, true, true, false, true, false, true, true, true, false, false, false, false, false] rfl rfl (by kernel_rfl) (fun _ _ _ h => h) (Or.inl ⟨by rfl, ?_⟩) ?_ ?_
      rotate_left
      · intro w'
        go_simp
        with_reducible rfl
      rotate_left
      · simp only [Act.put, List.setIfInBounds_toArray, List.set_cons_zero, List.set_cons_succ, i64_w, i32_w]
        rfl
      refine pure_ (i := 10) (N := some 21) (v := ?_) (a' := ?_) #[true, true, true, false, true, false, true, true, true, false, true, false, false, false] rfl rfl (by kernel_rfl) (fun _ _ _ h => h) (Or.inl ⟨by rfl, ?_⟩) ?_ ?_
      rotate_left
      · intro w'
        go_simp
        with_reducible rfl
      rotate_left
      · simp only [Act.put, List.setIfInBounds_toArray, List.set_cons_zero, List.set_cons_succ, i64_w, i32_w]
        rfl
      refine take_ (i := 3) (N := some 14) (v := ?_) (a' := ?_) #[true, true, true, true, true, false, true, true, true, false, true, false, false, false] rfl rfl (by kernel_rfl) (fun _ _ _ h => h) (Or.inl ⟨by rfl, ?_⟩) hHeld ?_ ?_
      rotate_left
      · rintro w' ⟨s0, s1⟩
        go_simp
        with_reducible rfl
      rotate_left
      · simp only [Act.put, List.setIfInBounds_toArray, List.set_cons_zero, List.set_cons_succ, i64_w, i32_w]
        rfl
      refine take_ (i := 9) (N := some 20) (v := ?_) (a' := ?_) #[true, true, true, true, true, false, true, true, true, true, true, false, false, false] rfl rfl (by kernel_rfl) (fun _ _ _ h => h) (Or.inl ⟨by rfl, ?_⟩) hHeld ?_ ?_
      rotate_left
      · rintro w' ⟨s0, s1⟩
        go_simp
        with_reducible rfl
      rotate_left
      · simp only [Act.put, List.setIfInBounds_toArray, List.set_cons_zero, List.set_cons_succ, i64_w, i32_w]
        rfl
      refine one_ (i := 5) (N := some 16) #[true, true, true, true, true, true, true, true, true, true, true, false, false, false] rfl rfl (by kernel_rfl) (by decide) (fun K hK => ?_)
      refine goes_ Tryd.func51 (by kernel_rfl) rfl #[.string pa, .int .i64 (d : Int)] (by rfl) rfl rfl (by simp only [List.map_toArray, List.map_cons, List.map_nil]; rfl) ?_
      with_reducible refine ((HA.out _)).mono ?_
      rintro e' w1 ⟨rfl, rfl⟩
      refine ⟨_, rfl, ?_⟩
      refine hK.out _ _ ⟨hHeld.1, hHeld.2⟩ (fun hHeld => ?_)
      clear hK K
      refine norm_ (a' := ?_) ?_ ?_
      rotate_left
      · show Act.put _ (some 16) _ = _
        simp only [Act.put, List.setIfInBounds_toArray, List.set_cons_zero, List.set_cons_succ, i64_w, i32_w]
        rfl
      refine one_ (i := 11) (N := some 22) #[true, true, true, true, true, true, true, true, true, true, true, true, false, false] rfl rfl (by kernel_rfl) (by decide) (fun K hK => ?_)
      refine goes_ Tryd.func51 (by kernel_rfl) rfl #[.string pb, .int .i64 (d : Int)] (by rfl) rfl rfl (by simp only [List.map_toArray, List.map_cons, List.map_nil]; rfl) ?_
      with_reducible refine ((HB.out _)).mono ?_
      rintro e' w1 ⟨rfl, rfl⟩
      refine ⟨_, rfl, ?_⟩
      refine hK.out _ _ ⟨hHeld.1, hHeld.2⟩ (fun hHeld => ?_)
      clear hK K
      refine norm_ (a' := ?_) ?_ ?_
      rotate_left
      · show Act.put _ (some 22) _ = _
        simp only [Act.put, List.setIfInBounds_toArray, List.set_cons_zero, List.set_cons_succ, i64_w, i32_w]
        rfl
      refine pure_ (i := 12) (N := some 7) (v := ?_) (a' := ?_) #[true, true, true, true, true, true, true, true, true, true, true, true, true, false] rfl rfl (by kernel_rfl) (fun _ _ _ h => h) (Or.inl ⟨by rfl, ?_⟩) ?_ ?_
      rotate_left
      · intro w'
        go_simp
        with_reducible rfl
      rotate_left
      · simp only [Act.put, List.setIfInBounds_toArray, List.set_cons_zero, List.set_cons_succ, i64_w, i32_w]
        rfl
      refine pure_ (i := 13) (N := some 8) (v := ?_) (a' := ?_) #[true, true, true, true, true, true, true, true, true, true, true, true, true, true] rfl rfl (by kernel_rfl) (fun _ _ _ h => h) (Or.inl ⟨by rfl, ?_⟩) ?_ ?_
      rotate_left
      · intro w'
        go_simp
        with_reducible rfl
      rotate_left
      · simp only [Act.put, List.setIfInBounds_toArray, List.set_cons_zero, List.set_cons_succ, i64_w, i32_w]
        rfl
      refine done_ (by kernel_rfl) ?_
      clear HA HB ca cb
      have R0 := IH.out _ _ _ _ _ _ TT.out AA.out BB.out G0.out HD'.out
      rw [show ((d + 1 : Nat) : Int) = (d : Int) + 1 by omega] at R0
      have R := hid R0
      clear R0
      go_wp2_with fail
      refine R.out.mono ?_
      rintro e w2 ⟨v2, rfl, t2, b2⟩
      have TL : Tree w2 v2 (treeF f [a, b]) := t2
      have TR : Tree w2 (.pointer none) (treeF f []) := by rw [treeF_nil]; exact Tree.nil w2
      have J2 := hid (joinT_any (TT.out.below b2) TL TR (fine_tree (by have := HD'.out; omega) G0.out (by simp)) (fine_tree (by have := HD'.out; omega) G1.out (by simp)))
      have BW := hid (below_then (show Below w.heap.size w w.drew from (Below.refl _ _).drew) b2)
      clear R t2 b2 TL TR
      go_wp2_with fail
      refine J2.out.mono ?_
      rintro e w3 ⟨v3, rfl, t3, b3⟩
      rw [HJ.out] at t3
      have B3 := below_then BW.out b3
      clear J2
      go_wp2
      go_ret
      exact ⟨v3, rfl, t3, B3⟩
    · have HA := hid (bit_is (by omega) h1)
      have HB := hid (bit_is (by omega) h2)
      simp only [h1, h2, if_true, List.cons_append, List.nil_append, show (0 : Int) ≠ 1 by decide, show (1 : Int) ≠ 0 by decide, if_false, List.append_nil] at J g0 g1
      have HJ := hid J
      have G0 := hid g0
      have G1 := hid g1
      obtain ⟨pa, hpa⟩ : ∃ p, p = pathS a.key := ⟨_, rfl⟩
      obtain ⟨pb, hpb⟩ : ∃ p, p = pathS b.key := ⟨_, rfl⟩
      rw [← hpa] at ca HA
      rw [← hpb] at cb HB
      clear h1 h2 J g0 g1 hpa hpb
      go_enter Tryd.func86, Tryd.ntmps86
      go_wp2
      refine start_ (n := 14) (S := fun w' => w'.cell? ⟨ga, 2, none⟩ = some (.string pa) ∧ w'.cell? ⟨gb, 2, none⟩ = some (.string pb)) (ds := []) #[false, false, false, false, false, false, false, false, false, false, false, false, false, false] (by kernel_rfl) rfl rfl ⟨ca, cb⟩ (fun hHeld => ?_)
      refine pure_ (i := 0) (N := some 11) (v := ?_) (a' := ?_) #[true, false, false, false, false, false, false, false, false, false, false, false, false, false] rfl rfl (by kernel_rfl) (fun _ _ _ h => h) (Or.inl ⟨by rfl, ?_⟩) ?_ ?_
      rotate_left
      · intro w'
        go_simp
        with_reducible rfl
      rotate_left
      · simp only [Act.put, List.setIfInBounds_toArray, List.set_cons_zero, List.set_cons_succ, i64_w, i32_w]
        rfl
      refine pure_ (i := 1) (N := some 12) (v := ?_) (a' := ?_) #[true, true, false, false, false, false, false, false, false, false, false, false, false, false] rfl rfl (by kernel_rfl) (fun _ _ _ h => h) (Or.inl ⟨by rfl, ?_⟩) ?_ ?_
      rotate_left
      · intro w'
        go_simp
        with_reducible rfl
      rotate_left
      · simp only [Act.put, List.setIfInBounds_toArray, List.set_cons_zero, List.set_cons_succ, i64_w, i32_w]
        rfl
      refine pure_ (i := 2) (N := some 13) (v := ?_) (a' := ?_) #[true, true, true, false, false, false, false, false, false, false, false, false, false, false] rfl rfl (by kernel_rfl) (fun _ _ _ h => h) (Or.inl ⟨by rfl, ?_⟩) ?_ ?_
      rotate_left
      · intro w'
        go_simp
        with_reducible rfl
      rotate_left
      · simp only [Act.put, List.setIfInBounds_toArray, List.set_cons_zero, List.set_cons_succ, i64_w, i32_w]
        rfl
      refine pure_ (i := 4) (N := some 15) (v := ?_) (a' := ?_) #[true, true, true, false, true, false, false, false, false, false, false, false, false, false] rfl rfl (by kernel_rfl) (fun _ _ _ h => h) (Or.inl ⟨by rfl, ?_⟩) ?_ ?_
      rotate_left
      · intro w'
        go_simp
        with_reducible rfl
      rotate_left
      · simp only [Act.put, List.setIfInBounds_toArray, List.set_cons_zero, List.set_cons_succ, i64_w, i32_w]
        rfl
      refine pure_ (i := 6) (N := some 17) (v := ?_) (a' := ?_) #[true, true, true, false, true, false, true, false, false, false, false, false, false, false] rfl rfl (by kernel_rfl) (fun _ _ _ h => h) (Or.inl ⟨by rfl, ?_⟩) ?_ ?_
      rotate_left
      · intro w'
        go_simp
        with_reducible rfl
      rotate_left
      · simp only [Act.put, List.setIfInBounds_toArray, List.set_cons_zero, List.set_cons_succ, i64_w, i32_w]
        rfl
      refine pure_ (i := 7) (N := some 18) (v := ?_) (a' := ?_) #[true, true, true, false, true, false, true, true, false, false, false, false, false, false] rfl rfl (by kernel_rfl) (fun _ _ _ h => h) (Or.inl ⟨by rfl, ?_⟩) ?_ ?_
      rotate_left
      · intro w'
        go_simp
        with_reducible rfl
      rotate_left
      · simp only [Act.put, List.setIfInBounds_toArray, List.set_cons_zero, List.set_cons_succ, i64_w, i32_w]
        rfl
      refine pure_ (i := 8) (N := some 19) (v := ?_) (a' := ?_) #[true, true, true, false, true, false, true, true, true, false, false, false, false, false] rfl rfl (by kernel_rfl) (fun _ _ _ h => h) (Or.inl ⟨by rfl, ?_⟩) ?_ ?_
      rotate_left
      · intro w'
        go_simp
        with_reducible rfl
      rotate_left
      · simp only [Act.put, List.setIfInBounds_toArray, List.set_cons_zero, List.set_cons_succ, i64_w, i32_w]
        rfl
      refine pure_ (i := 10) (N := some 21) (v := ?_) (a' := ?_) #[true, true, true, false, true, false, true, true, true, false, true, false, false, false] rfl rfl (by kernel_rfl) (fun _ _ _ h => h) (Or.inl ⟨by rfl, ?_⟩) ?_ ?_
      rotate_left
      · intro w'
        go_simp
        with_reducible rfl
      rotate_left
      · simp only [Act.put, List.setIfInBounds_toArray, List.set_cons_zero, List.set_cons_succ, i64_w, i32_w]
        rfl
      refine take_ (i := 3) (N := some 14) (v := ?_) (a' := ?_) #[true, true, true, true, true, false, true, true, true, false, true, false, false, false] rfl rfl (by kernel_rfl) (fun _ _ _ h => h) (Or.inl ⟨by rfl, ?_⟩) hHeld ?_ ?_
      rotate_left
      · rintro w' ⟨s0, s1⟩
        go_simp
        with_reducible rfl
      rotate_left
      · simp only [Act.put, List.setIfInBounds_toArray, List.set_cons_zero, List.set_cons_succ, i64_w, i32_w]
        rfl
      refine take_ (i := 9) (N := some 20) (v := ?_) (a' := ?_) #[true, true, true, true, true, false, true, true, true, true, true, false, false, false] rfl rfl (by kernel_rfl) (fun _ _ _ h => h) (Or.inl ⟨by rfl, ?_⟩) hHeld ?_ ?_
      rotate_left
      · rintro w' ⟨s0, s1⟩
        go_simp
        with_reducible rfl
      rotate_left
      · simp only [Act.put, List.setIfInBounds_toArray, List.set_cons_zero, List.set_cons_succ, i64_w, i32_w]
        rfl
      refine one_ (i := 5) (N := some 16) #[true, true, true, true, true, true, true, true, true, true, true, false, false, false] rfl rfl (by kernel_rfl) (by decide) (fun K hK => ?_)
      refine goes_ Tryd.func51 (by kernel_rfl) rfl #[.string pa, .int .i64 (d : Int)] (by rfl) rfl rfl (by simp only [List.map_toArray, List.map_cons, List.map_nil]; rfl) ?_
      with_reducible refine ((HA.out _)).mono ?_
      rintro e' w1 ⟨rfl, rfl⟩
      refine ⟨_, rfl, ?_⟩
      refine hK.out _ _ ⟨hHeld.1, hHeld.2⟩ (fun hHeld => ?_)
      clear hK K
      refine norm_ (a' := ?_) ?_ ?_
      rotate_left
      · show Act.put _ (some 16) _ = _
        simp only [Act.put, List.setIfInBounds_toArray, List.set_cons_zero, List.set_cons_succ, i64_w, i32_w]
        rfl
      refine one_ (i := 11) (N := some 22) #[true, true, true, true, true, true, true, true, true, true, true, true, false, false] rfl rfl (by kernel_rfl) (by decide) (fun K hK => ?_)
      refine goes_ Tryd.func51 (by kernel_rfl) rfl #[.string pb, .int .i64 (d : Int)] (by rfl) rfl rfl (by simp only [List.map_toArray, List.map_cons, List.map_nil]; rfl) ?_
      with_reducible refine ((HB.out _)).mono ?_
      rintro e' w1 ⟨rfl, rfl⟩
      refine ⟨_, rfl, ?_⟩
      refine hK.out _ _ ⟨hHeld.1, hHeld.2⟩ (fun hHeld => ?_)
      clear hK K
      refine norm_ (a' := ?_) ?_ ?_
      rotate_left
      · show Act.put _ (some 22) _ = _
        simp only [Act.put, List.setIfInBounds_toArray, List.set_cons_zero, List.set_cons_succ, i64_w, i32_w]
        rfl
      refine pure_ (i := 12) (N := some 7) (v := ?_) (a' := ?_) #[true, true, true, true, true, true, true, true, true, true, true, true, true, false] rfl rfl (by kernel_rfl) (fun _ _ _ h => h) (Or.inl ⟨by rfl, ?_⟩) ?_ ?_
      rotate_left
      · intro w'
        go_simp
        with_reducible rfl
      rotate_left
      · simp only [Act.put, List.setIfInBounds_toArray, List.set_cons_zero, List.set_cons_succ, i64_w, i32_w]
        rfl
      refine pure_ (i := 13) (N := some 8) (v := ?_) (a' := ?_) #[true, true, true, true, true, true, true, true, true, true, true, true, true, true] rfl rfl (by kernel_rfl) (fun _ _ _ h => h) (Or.inl ⟨by rfl, ?_⟩) ?_ ?_
      rotate_left
      · intro w'
        go_simp
        with_reducible rfl
      rotate_left
      · simp only [Act.put, List.setIfInBounds_toArray, List.set_cons_zero, List.set_cons_succ, i64_w, i32_w]
        rfl
      refine done_ (by kernel_rfl) ?_
      clear HA HB ca cb
      have TL : Tree w.drew (.pointer (some ⟨ga, 0, none⟩)) (treeF f [a]) := by rw [treeF_one]; exact AA.out
      have TR : Tree w.drew (.pointer (some ⟨gb, 0, none⟩)) (treeF f [b]) := by rw [treeF_one]; exact BB.out
      have J2 := hid (joinT_any TT.out TL TR (fine_tree (by have := HD'.out; omega) G0.out (by simp)) (fine_tree (by have := HD'.out; omega) G1.out (by simp)))
      have BW := hid (show Below w.heap.size w w.drew from (Below.refl _ _).drew)
      clear TL TR
      go_wp2_with fail
      refine J2.out.mono ?_
      rintro e w3 ⟨v3, rfl, t3, b3⟩
      rw [HJ.out] at t3
      have B3 := below_then BW.out b3
      clear J2
      go_wp2
      go_ret
      exact ⟨v3, rfl, t3, B3⟩
    · have HA := hid (bit_is (by omega) h1)
      have HB := hid (bit_is (by omega) h2)
      simp only [h1, h2, if_true, List.cons_append, List.nil_append, show (0 : Int) ≠ 1 by decide, show (1 : Int) ≠ 0 by decide, if_false, List.append_nil] at J g0 g1
      have HJ := hid J
      have G0 := hid g0
      have G1 := hid g1
      obtain ⟨pa, hpa⟩ : ∃ p, p = pathS a.key := ⟨_, rfl⟩
      obtain ⟨pb, hpb⟩ : ∃ p, p = pathS b.key := ⟨_, rfl⟩
      rw [← hpa] at ca HA
      rw [← hpb] at cb HB
      clear h1 h2 J g0 g1 hpa hpb
      go_enter Tryd.func86, Tryd.ntmps86
      go_wp2
      refine start_ (n := 14) (S := fun w' => w'.cell? ⟨ga, 2, none⟩ = some (.string pa) ∧ w'.cell? ⟨gb, 2, none⟩ = some (.string pb)) (ds := []) #[false, false, false, false, false, false, false, false, false, false, false, false, false, false] (by kernel_rfl) rfl rfl ⟨ca, cb⟩ (fun hHeld => ?_)
      refine pure_ (i := 0) (N := some 11) (v := ?_) (a' := ?_) #[true, false, false, false, false, false, false, false, false, false, false, false, false, false] rfl rfl (by kernel_rfl) (fun _ _ _ h => h) (Or.inl ⟨by rfl, ?_⟩) ?_ ?_
      rotate_left
      · intro w'
        go_simp
        with_reducible rfl
      rotate_left
      · simp only [Act.put, List.setIfInBounds_toArray, List.set_cons_zero, List.set_cons_succ, i64_w, i32_w]
        rfl
      refine pure_ (i := 1) (N := some 12) (v := ?_) (a' := ?_) #[true, true, false, false, false, false, false, false, false, false, false, false, false, false] rfl rfl (by kernel_rfl) (fun _ _ _ h => h) (Or.inl ⟨by rfl, ?_⟩) ?_ ?_
      rotate_left
      · intro w'
        go_simp
        with_reducible rfl
      rotate_left
      · simp only [Act.put, List.setIfInBounds_toArray, List.set_cons_zero, List.set_cons_succ, i64_w, i32_w]
        rfl
      refine pure_ (i := 2) (N := some 13) (v := ?_) (a' := ?_) #[true, true, true, false, false, false, false, false, false, false, false, false, false, false] rfl rfl (by kernel_rfl) (fun _ _ _ h => h) (Or.inl ⟨by rfl, ?_⟩) ?_ ?_
      rotate_left
      · intro w'
        go_simp
        with_reducible rfl
      rotate_left
      · simp only [Act.put, List.setIfInBounds_toArray, List.set_cons_zero, List.set_cons_succ, i64_w, i32_w]
        rfl
      refine pure_ (i := 4) (N := some 15) (v := ?_) (a' := ?_) #[true, true, true, false, true, false, false, false, false, false, false, false, false, false] rfl rfl (by kernel_rfl) (fun _ _ _ h => h) (Or.inl ⟨by rfl, ?_⟩) ?_ ?_
      rotate_left
      · intro w'
        go_simp
        with_reducible rfl
      rotate_left
      · simp only [Act.put, List.setIfInBounds_toArray, List.set_cons_zero, List.set_cons_succ, i64_w, i32_w]
        rfl
      refine pure_ (i := 6) (N := some 17) (v := ?_) (a' := ?_) #[true, true, true, false, true, false, true, false, false, false, false, false, false, false] rfl rfl (by kernel_rfl) (fun _ _ _ h => h) (Or.inl ⟨by rfl, ?_⟩) ?_ ?_
      rotate_left
      · intro w'
        go_simp
        with_reducible rfl
      rotate_left
      · simp only [Act.put, List.setIfInBounds_toArray, List.set_cons_zero, List.set_cons_succ, i64_w, i32_w]
        rfl
      refine pure_ (i := 7) (N := some 18) (v := ?_) (a' := ?_) #[true, true, true, false, true, false, true, true, false, false, false, false, false, false] rfl rfl (by kernel_rfl) (fun _ _ _ h => h) (Or.inl ⟨by rfl, ?_⟩) ?_ ?_
      rotate_left
      · intro w'
        go_simp
        with_reducible rfl
      rotate_left
      · simp only [Act.put, List.setIfInBounds_toArray, List.set_cons_zero, List.set_cons_succ, i64_w, i32_w]
        rfl
      refine pure_ (i := 8) (N := some 19) (v := ?_) (a' := ?_) #[true, true, true, false, true, false, true, true, true, false, false, false, false, false] rfl rfl (by kernel_rfl) (fun _ _ _ h => h) (Or.inl ⟨by rfl, ?_⟩) ?_ ?_
      rotate_left
      · intro w'
        go_simp
        with_reducible rfl
      rotate_left
      · simp only [Act.put, List.setIfInBounds_toArray, List.set_cons_zero, List.set_cons_succ, i64_w, i32_w]
        rfl
      refine pure_ (i := 10) (N := some 21) (v := ?_) (a' := ?_) #[true, true, true, false, true, false, true, true, true, false, true, false, false, false] rfl rfl (by kernel_rfl) (fun _ _ _ h => h) (Or.inl ⟨by rfl, ?_⟩) ?_ ?_
      rotate_left
      · intro w'
        go_simp
        with_reducible rfl
      rotate_left
      · simp only [Act.put, List.setIfInBounds_toArray, List.set_cons_zero, List.set_cons_succ, i64_w, i32_w]
        rfl
      refine take_ (i := 3) (N := some 14) (v := ?_) (a' := ?_) #[true, true, true, true, true, false, true, true, true, false, true, false, false, false] rfl rfl (by kernel_rfl) (fun _ _ _ h => h) (Or.inl ⟨by rfl, ?_⟩) hHeld ?_ ?_
      rotate_left
      · rintro w' ⟨s0, s1⟩
        go_simp
        with_reducible rfl
      rotate_left
      · simp only [Act.put, List.setIfInBounds_toArray, List.set_cons_zero, List.set_cons_succ, i64_w, i32_w]
        rfl
      refine take_ (i := 9) (N := some 20) (v := ?_) (a' := ?_) #[true, true, true, true, true, false, true, true, true, true, true, false, false, false] rfl rfl (by kernel_rfl) (fun _ _ _ h => h) (Or.inl ⟨by rfl, ?_⟩) hHeld ?_ ?_
      rotate_left
      · rintro w' ⟨s0, s1⟩
        go_simp
        with_reducible rfl
      rotate_left
      · simp only [Act.put, List.setIfInBounds_toArray, List.set_cons_zero, List.set_cons_succ, i64_w, i32_w]
        rfl
      refine one_ (i := 5) (N := some 16) #[true, true, true, true, true, true, true, true, true, true, true, false, false, false] rfl rfl (by kernel_rfl) (by decide) (fun K hK => ?_)
      refine goes_ Tryd.func51 (by kernel_rfl) rfl #[.string pa, .int .i64 (d : Int)] (by rfl) rfl rfl (by simp only [List.map_toArray, List.map_cons, List.map_nil]; rfl) ?_
      with_reducible refine ((HA.out _)).mono ?_
      rintro e' w1 ⟨rfl, rfl⟩
      refine ⟨_, rfl, ?_⟩
      refine hK.out _ _ ⟨hHeld.1, hHeld.2⟩ (fun hHeld => ?_)
      clear hK K
      refine norm_ (a' := ?_) ?_ ?_
      rotate_left
      · show Act.put _ (some 16) _ = _
        simp only [Act.put, List.setIfInBounds_toArray, List.set_cons_zero, List.set_cons_succ, i64_w, i32_w]
        rfl
      refine one_ (i := 11) (N := some 22) #[true, true, true, true, true, true, true, true, true, true, true, true, false, false] rfl rfl (by kernel_rfl) (by decide) (fun K hK => ?_)
      refine goes_ Tryd.func51 (by kernel_rfl) rfl #[.string pb, .int .i64 (d : Int)] (by rfl) rfl rfl (by simp only [List.map_toArray, List.map_cons, List.map_nil]; rfl) ?_
      with_reducible refine ((HB.out _)).mono ?_
      rintro e' w1 ⟨rfl, rfl⟩
      refine ⟨_, rfl, ?_⟩
      refine hK.out _ _ ⟨hHeld.1, hHeld.2⟩ (fun hHeld => ?_)
      clear hK K
      refine norm_ (a' := ?_) ?_ ?_
      rotate_left
      · show Act.put _ (some 22) _ = _
        simp only [Act.put, List.setIfInBounds_toArray, List.set_cons_zero, List.set_cons_succ, i64_w, i32_w]
        rfl
      refine pure_ (i := 12) (N := some 7) (v := ?_) (a' := ?_) #[true, true, true, true, true, true, true, true, true, true, true, true, true, false] rfl rfl (by kernel_rfl) (fun _ _ _ h => h) (Or.inl ⟨by rfl, ?_⟩) ?_ ?_
      rotate_left
      · intro w'
        go_simp
        with_reducible rfl
      rotate_left
      · simp only [Act.put, List.setIfInBounds_toArray, List.set_cons_zero, List.set_cons_succ, i64_w, i32_w]
        rfl
      refine pure_ (i := 13) (N := some 8) (v := ?_) (a' := ?_) #[true, true, true, true, true, true, true, true, true, true, true, true, true, true] rfl rfl (by kernel_rfl) (fun _ _ _ h => h) (Or.inl ⟨by rfl, ?_⟩) ?_ ?_
      rotate_left
      · intro w'
        go_simp
        with_reducible rfl
      rotate_left
      · simp only [Act.put, List.setIfInBounds_toArray, List.set_cons_zero, List.set_cons_succ, i64_w, i32_w]
        rfl
      refine done_ (by kernel_rfl) ?_
      clear HA HB ca cb
      have TL : Tree w.drew (.pointer (some ⟨gb, 0, none⟩)) (treeF f [b]) := by rw [treeF_one]; exact BB.out
      have TR : Tree w.drew (.pointer (some ⟨ga, 0, none⟩)) (treeF f [a]) := by rw [treeF_one]; exact AA.out
      have J2 := hid (joinT_any TT.out TL TR (fine_tree (by have := HD'.out; omega) G0.out (by simp)) (fine_tree (by have := HD'.out; omega) G1.out (by simp)))
      have BW := hid (show Below w.heap.size w w.drew from (Below.refl _ _).drew)
      clear TL TR
      go_wp2_with fail
      refine J2.out.mono ?_
      rintro e w3 ⟨v3, rfl, t3, b3⟩
      rw [HJ.out] at t3
      have B3 := below_then BW.out b3
      clear J2
      go_wp2
      go_ret
      exact ⟨v3, rfl, t3, B3⟩
    · have HA := hid (bit_is (by omega) h1)
      have HB := hid (bit_is (by omega) h2)
      simp only [h1, h2, if_true, List.cons_append, List.nil_append, show (0 : Int) ≠ 1 by decide, show (1 : Int) ≠ 0 by decide, if_false, List.append_nil] at J g0 g1
      have HJ := hid J
      have G0 := hid g0
      have G1 := hid g1
      obtain ⟨pa, hpa⟩ : ∃ p, p = pathS a.key := ⟨_, rfl⟩
      obtain ⟨pb, hpb⟩ : ∃ p, p = pathS b.key := ⟨_, rfl⟩
      rw [← hpa] at ca HA
      rw [← hpb] at cb HB
      clear h1 h2 J g0 g1 hpa hpb
      go_enter Tryd.func86, Tryd.ntmps86
      go_wp2
      refine start_ (n := 14) (S := fun w' => w'.cell? ⟨ga, 2, none⟩ = some (.string pa) ∧ w'.cell? ⟨gb, 2, none⟩ = some (.string pb)) (ds := []) #[false, false, false, false, false, false, false, false, false, false, false, false, false, false] (by kernel_rfl) rfl rfl ⟨ca, cb⟩ (fun hHeld => ?_)
      refine pure_ (i := 0) (N := some 11) (v := ?_) (a' := ?_) #[true, false, false, false, false, false, false, false, false, false, false, false, false, false] rfl rfl (by kernel_rfl) (fun _ _ _ h => h) (Or.inl ⟨by rfl, ?_⟩) ?_ ?_
      rotate_left
      · intro w'
        go_simp
        with_reducible rfl
      rotate_left
      · simp only [Act.put, List.setIfInBounds_toArray, List.set_cons_zero, List.set_cons_succ, i64_w, i32_w]
        rfl
      refine pure_ (i := 1) (N := some 12) (v := ?_) (a' := ?_) #[true, true, false, false, false, false, false, false, false, false, false, false, false, false] rfl rfl (by kernel_rfl) (fun _ _ _ h => h) (Or.inl ⟨by rfl, ?_⟩) ?_ ?_
      rotate_left
      · intro w'
        go_simp
        with_reducible rfl
      rotate_left
      · simp only [Act.put, List.setIfInBounds_toArray, List.set_cons_zero, List.set_cons_succ, i64_w, i32_w]
        rfl
      refine pure_ (i := 2) (N := some 13) (v := ?_) (a' := ?_) #[true, true, true, false, false, false, false, false, false, false, false, false, false, false] rfl rfl (by kernel_rfl) (fun _ _ _ h => h) (Or.inl ⟨by rfl, ?_⟩) ?_ ?_
      rotate_left
      · intro w'
        go_simp
        with_reducible rfl
      rotate_left
      · simp only [Act.put, List.setIfInBounds_toArray, List.set_cons_zero, List.set_cons_succ, i64_w, i32_w]
        rfl
      refine pure_ (i := 4) (N := some 15) (v := ?_) (a' := ?_) #[true, true, true, false, true, false, false, false, false, false, false, false, false, false] rfl rfl (by kernel_rfl) (fun _ _ _ h => h) (Or.inl ⟨by rfl, ?_⟩) ?_ ?_
      rotate_left
      · intro w'
        go_simp
        with_reducible rfl
      rotate_left
      · simp only [Act.put, List.setIfInBounds_toArray, List.set_cons_zero, List.set_cons_succ, i64_w, i32_w]
        rfl
      refine pure_ (i := 6) (N := some 17) (v := ?_) (a' := ?_) #[true, true, true, false, true, false, true, false, false, false, false, false, false, false] rfl rfl (by kernel_rfl) (fun _ _ _ h => h) (Or.inl ⟨by rfl, ?_⟩) ?_ ?_
      rotate_left
      · intro w'
        go_simp
        with_reducible rfl
      rotate_left
      · simp only [Act.put, List.setIfInBounds_toArray, List.set_cons_zero, List.set_cons_succ, i64_w, i32_w]
        rfl
      refine pure_ (i := 7) (N := some 18) (v := ?_) (a' := ?_) #[true, true, true, false, true, false, true, true, false, false, false, false, false, false] rfl rfl (by kernel_rfl) (fun _ _ _ h => h) (Or.inl ⟨by rfl, ?_⟩) ?_ ?_
      rotate_left
      · intro w'
        go_simp
        with_reducible rfl
      rotate_left
      · simp only [Act.put, List.setIfInBounds_toArray, List.set_cons_zero, List.set_cons_succ, i64_w, i32_w]
        rfl
      refine pure_ (i := 8) (N := some 19) (v := ?_) (a' := ?_) #[true, true, true, false, true, false, true, true, true, false, false, false, false, false] rfl rfl (by kernel_rfl) (fun _ _ _ h => h) (Or.inl ⟨by rfl, ?_⟩) ?_ ?_
      rotate_left
      · intro w'
        go_simp
        with_reducible rfl
      rotate_left
      · simp only [Act.put, List.setIfInBounds_toArray, List.set_cons_zero, List.set_cons_succ, i64_w, i32_w]
        rfl
      refine pure_ (i := 10) (N := some 21) (v := ?_) (a' := ?_) #[true, true, true, false, true, false, true, true, true, false, true, false, false, false] rfl rfl (by kernel_rfl) (fun _ _ _ h => h) (Or.inl ⟨by rfl, ?_⟩) ?_ ?_
      rotate_left
      · intro w'
        go_simp
        with_reducible rfl
      rotate_left
      · simp only [Act.put, List.setIfInBounds_toArray, List.set_cons_zero, List.set_cons_succ, i64_w, i32_w]
        rfl
      refine take_ (i := 3) (N := some 14) (v := ?_) (a' := ?_) #[true, true, true, true, true, false, true, true, true, false, true, false, false, false] rfl rfl (by kernel_rfl) (fun _ _ _ h => h) (Or.inl ⟨by rfl, ?_⟩) hHeld ?_ ?_
      rotate_left
      · rintro w' ⟨s0, s1⟩
        go_simp
        with_reducible rfl
      rotate_left
      · simp only [Act.put, List.setIfInBounds_toArray, List.set_cons_zero, List.set_cons_succ, i64_w, i32_w]
        rfl
      refine take_ (i := 9) (N := some 20) (v := ?_) (a' := ?_) #[true, true, true, true, true, false, true, true, true, true, true, false, false, false] rfl rfl (by kernel_rfl) (fun _ _ _ h => h) (Or.inl ⟨by rfl, ?_⟩) hHeld ?_ ?_
      rotate_left
      · rintro w' ⟨s0, s1⟩
        go_simp
        with_reducible rfl
      rotate_left
      · simp only [Act.put, List.setIfInBounds_toArray, List.set_cons_zero, List.set_cons_succ, i64_w, i32_w]
        rfl
      refine one_ (i := 5) (N := some 16) #[true, true, true, true, true, true, true, true, true, true, true, false, false, false] rfl rfl (by kernel_rfl) (by decide) (fun K hK => ?_)
      refine goes_ Tryd.func51 (by kernel_rfl) rfl #[.string pa, .int .i64 (d : Int)] (by rfl) rfl rfl (by simp only [List.map_toArray, List.map_cons, List.map_nil]; rfl) ?_
      with_reducible refine ((HA.out _)).mono ?_
      rintro e' w1 ⟨rfl, rfl⟩
      refine ⟨_, rfl, ?_⟩
      refine hK.out _ _ ⟨hHeld.1, hHeld.2⟩ (fun hHeld => ?_)
      clear hK K
      refine norm_ (a' := ?_) ?_ ?_
      rotate_left
      · show Act.put _ (some 16) _ = _
        simp only [Act.put, List.setIfInBounds_toArray, List.set_cons_zero, List.set_cons_succ, i64_w, i32_w]
        rfl
      refine one_ (i := 11) (N := some 22) #[true, true, true, true, true, true, true, true, true, true, true, true, false, false] rfl rfl (by kernel_rfl) (by decide) (fun K hK => ?_)
      refine goes_ Tryd.func51 (by kernel_rfl) rfl #[.string pb, .int .i64 (d : Int)] (by rfl) rfl rfl (by simp only [List.map_toArray, List.map_cons, List.map_nil]; rfl) ?_
      with_reducible refine ((HB.out _)).mono ?_
      rintro e' w1 ⟨rfl, rfl⟩
      refine ⟨_, rfl, ?_⟩
      refine hK.out _ _ ⟨hHeld.1, hHeld.2⟩ (fun hHeld => ?_)
      clear hK K
      refine norm_ (a' := ?_) ?_ ?_
      rotate_left
      · show Act.put _ (some 22) _ = _
        simp only [Act.put, List.setIfInBounds_toArray, List.set_cons_zero, List.set_cons_succ, i64_w, i32_w]
        rfl
      refine pure_ (i := 12) (N := some 7) (v := ?_) (a' := ?_) #[true, true, true, true, true, true, true, true, true, true, true, true, true, false] rfl rfl (by kernel_rfl) (fun _ _ _ h => h) (Or.inl ⟨by rfl, ?_⟩) ?_ ?_
      rotate_left
      · intro w'
        go_simp
        with_reducible rfl
      rotate_left
      · simp only [Act.put, List.setIfInBounds_toArray, List.set_cons_zero, List.set_cons_succ, i64_w, i32_w]
        rfl
      refine pure_ (i := 13) (N := some 8) (v := ?_) (a' := ?_) #[true, true, true, true, true, true, true, true, true, true, true, true, true, true] rfl rfl (by kernel_rfl) (fun _ _ _ h => h) (Or.inl ⟨by rfl, ?_⟩) ?_ ?_
      rotate_left
      · intro w'
        go_simp
        with_reducible rfl
      rotate_left
      · simp only [Act.put, List.setIfInBounds_toArray, List.set_cons_zero, List.set_cons_succ, i64_w, i32_w]
        rfl
      refine done_ (by kernel_rfl) ?_
      clear HA HB ca cb
      have R0 := IH.out _ _ _ _ _ _ TT.out AA.out BB.out G1.out HD'.out
      rw [show ((d + 1 : Nat) : Int) = (d : Int) + 1 by omega] at R0
      have R := hid R0
      clear R0
      go_wp2_with fail
      refine R.out.mono ?_
      rintro e w2 ⟨v2, rfl, t2, b2⟩
      have TL : Tree w2 (.pointer none) (treeF f []) := by rw [treeF_nil]; exact Tree.nil w2
      have TR : Tree w2 v2 (treeF f [a, b]) := t2
      have J2 := hid (joinT_any (TT.out.below b2) TL TR (fine_tree (by have := HD'.out; omega) G0.out (by simp)) (fine_tree (by have := HD'.out; omega) G1.out (by simp)))
      have BW := hid (below_then (show Below w.heap.size w w.drew from (Below.refl _ _).drew) b2)
      clear R t2 b2 TL TR
      go_wp2_with fail
      refine J2.out.mono ?_
      rintro e w3 ⟨v3, rfl, t3, b3⟩
      rw [HJ.out] at t3
      have B3 := below_then BW.out b3
      clear J2
      go_wp2
      go_ret
      exact ⟨v3, rfl, t3, B3⟩

theorem str_eq_of {p q : List UInt8} (h : strB p = strB q) : p = q := strB_inj h
theorem path_eq {a b : ByteArray} : pathS a = pathS b ↔ pathK a = pathK b := by
  constructor
  · intro h; exact strB_inj h
  · intro h; show strB (pathK a) = strB (pathK b); rw [h]

set_option maxRecDepth 100000 in
set_option maxHeartbeats 12800000 in
theorem put_nil {w : World} {vx : Value} {d : Int} : Calls Tryd.prog 75 #[.pointer none, vx, .int .i64 d] w fun e w' => e = .returned vx ∧ Below w.heap.size w w' := by
  go_enter Tryd.func75, Tryd.ntmps75
  go_wp2
  refine start_ (n := 18) (S := fun w' => True) (ds := []) #[false, false, false, false, false, false, false, false, false, false, false, false, false, false, false, false, false, false] (by kernel_rfl) rfl rfl trivial (fun hHeld => ?_)
  refine pure_ (i := 0) (N := some 8) (v := ?_) (a' := ?_) #[true, false, false, false, false, false, false, false, false, false, false, false, false, false, false, false, false, false] rfl rfl (by kernel_rfl) (fun _ _ _ h => h) (Or.inl ⟨by rfl, ?_⟩) ?_ ?_
  rotate_left
  · intro w'
    go_simp
    with_reducible rfl
  rotate_left
  · simp only [Act.put, List.setIfInBounds_toArray, List.set_cons_zero, List.set_cons_succ, i64_w, i32_w]
    rfl
  refine pure_ (i := 1) (N := some 9) (v := ?_) (a' := ?_) #[true, true, false, false, false, false, false, false, false, false, false, false, false, false, false, false, false, false] rfl rfl (by kernel_rfl) (fun _ _ _ h => h) (Or.inl ⟨by rfl, ?_⟩) ?_ ?_
  rotate_left
  · intro w'
    go_simp
    with_reducible rfl
  rotate_left
  · simp only [Act.put, List.setIfInBounds_toArray, List.set_cons_zero, List.set_cons_succ, i64_w, i32_w]
    rfl
  refine pure_ (i := 2) (N := some 10) (v := ?_) (a' := ?_) #[true, true, true, false, false, false, false, false, false, false, false, false, false, false, false, false, false, false] rfl rfl (by kernel_rfl) (fun _ _ _ h => h) (Or.inl ⟨by rfl, ?_⟩) ?_ ?_
  rotate_left
  · intro w'
    go_simp
    with_reducible rfl
  rotate_left
  · simp only [Act.put, List.setIfInBounds_toArray, List.set_cons_zero, List.set_cons_succ, i64_w, i32_w]
    rfl
  refine pure_ (i := 3) (N := some 11) (v := undef) (a' := ?_) #[true, true, true, true, false, false, false, false, false, false, false, false, false, false, false, false, false, false] rfl rfl (by kernel_rfl) (fun _ _ _ h => h) (Or.inr ⟨by rfl, rfl⟩) ?_ ?_
  rotate_left
  · simp only [Act.put, List.setIfInBounds_toArray, List.set_cons_zero, List.set_cons_succ, i64_w, i32_w]
    rfl
  refine pure_ (i := 4) (N := some 12) (v := undef) (a' := ?_) #[true, true, true, true, true, false, false, false, false, false, false, false, false, false, false, false, false, false] rfl rfl (by kernel_rfl) (fun _ _ _ h => h) (Or.inr ⟨by rfl, rfl⟩) ?_ ?_
  rotate_left
  · simp only [Act.put, List.setIfInBounds_toArray, List.set_cons_zero, List.set_cons_succ, i64_w, i32_w]
    rfl
  refine pure_ (i := 5) (N := some 13) (v := undef) (a' := ?_) #[true, true, true, true, true, true, false, false, false, false, false, false, false, false, false, false, false, false] rfl rfl (by kernel_rfl) (fun _ _ _ h => h) (Or.inr ⟨by rfl, rfl⟩) ?_ ?_
  rotate_left
  · simp only [Act.put, List.setIfInBounds_toArray, List.set_cons_zero, List.set_cons_succ, i64_w, i32_w]
    rfl
  refine pure_ (i := 6) (N := some 14) (v := undef) (a' := ?_) #[true, true, true, true, true, true, true, false, false, false, false, false, false, false, false, false, false, false] rfl rfl (by kernel_rfl) (fun _ _ _ h => h) (Or.inr ⟨by rfl, rfl⟩) ?_ ?_
  rotate_left
  · simp only [Act.put, List.setIfInBounds_toArray, List.set_cons_zero, List.set_cons_succ, i64_w, i32_w]
    rfl
  refine pure_ (i := 7) (N := some 15) (v := undef) (a' := ?_) #[true, true, true, true, true, true, true, true, false, false, false, false, false, false, false, false, false, false] rfl rfl (by kernel_rfl) (fun _ _ _ h => h) (Or.inr ⟨by rfl, rfl⟩) ?_ ?_
  rotate_left
  · simp only [Act.put, List.setIfInBounds_toArray, List.set_cons_zero, List.set_cons_succ, i64_w, i32_w]
    rfl
  refine pure_ (i := 8) (N := some 16) (v := undef) (a' := ?_) #[true, true, true, true, true, true, true, true, true, false, false, false, false, false, false, false, false, false] rfl rfl (by kernel_rfl) (fun _ _ _ h => h) (Or.inr ⟨by rfl, rfl⟩) ?_ ?_
  rotate_left
  · simp only [Act.put, List.setIfInBounds_toArray, List.set_cons_zero, List.set_cons_succ, i64_w, i32_w]
    rfl
  refine pure_ (i := 9) (N := some 17) (v := undef) (a' := ?_) #[true, true, true, true, true, true, true, true, true, true, false, false, false, false, false, false, false, false] rfl rfl (by kernel_rfl) (fun _ _ _ h => h) (Or.inr ⟨by rfl, rfl⟩) ?_ ?_
  rotate_left
  · simp only [Act.put, List.setIfInBounds_toArray, List.set_cons_zero, List.set_cons_succ, i64_w, i32_w]
    rfl
  refine pure_ (i := 10) (N := some 18) (v := undef) (a' := ?_) #[true, true, true, true, true, true, true, true, true, true, true, false, false, false, false, false, false, false] rfl rfl (by kernel_rfl) (fun _ _ _ h => h) (Or.inr ⟨by rfl, rfl⟩) ?_ ?_
  rotate_left
  · simp only [Act.put, List.setIfInBounds_toArray, List.set_cons_zero, List.set_cons_succ, i64_w, i32_w]
    rfl
  refine pure_ (i := 11) (N := some 19) (v := undef) (a' := ?_) #[true, true, true, true, true, true, true, true, true, true, true, true, false, false, false, false, false, false] rfl rfl (by kernel_rfl) (fun _ _ _ h => h) (Or.inr ⟨by rfl, rfl⟩) ?_ ?_
  rotate_left
  · simp only [Act.put, List.setIfInBounds_toArray, List.set_cons_zero, List.set_cons_succ, i64_w, i32_w]
    rfl
  refine pure_ (i := 12) (N := some 20) (v := undef) (a' := ?_) #[true, true, true, true, true, true, true, true, true, true, true, true, true, false, false, false, false, false] rfl rfl (by kernel_rfl) (fun _ _ _ h => h) (Or.inr ⟨by rfl, rfl⟩) ?_ ?_
  rotate_left
  · simp only [Act.put, List.setIfInBounds_toArray, List.set_cons_zero, List.set_cons_succ, i64_w, i32_w]
    rfl
  refine pure_ (i := 13) (N := some 21) (v := undef) (a' := ?_) #[true, true, true, true, true, true, true, true, true, true, true, true, true, true, false, false, false, false] rfl rfl (by kernel_rfl) (fun _ _ _ h => h) (Or.inr ⟨by rfl, rfl⟩) ?_ ?_
  rotate_left
  · simp only [Act.put, List.setIfInBounds_toArray, List.set_cons_zero, List.set_cons_succ, i64_w, i32_w]
    rfl
  refine pure_ (i := 14) (N := some 22) (v := undef) (a' := ?_) #[true, true, true, true, true, true, true, true, true, true, true, true, true, true, true, false, false, false] rfl rfl (by kernel_rfl) (fun _ _ _ h => h) (Or.inr ⟨by rfl, rfl⟩) ?_ ?_
  rotate_left
  · simp only [Act.put, List.setIfInBounds_toArray, List.set_cons_zero, List.set_cons_succ, i64_w, i32_w]
    rfl
  refine pure_ (i := 15) (N := some 23) (v := undef) (a' := ?_) #[true, true, true, true, true, true, true, true, true, true, true, true, true, true, true, true, false, false] rfl rfl (by kernel_rfl) (fun _ _ _ h => h) (Or.inr ⟨by rfl, rfl⟩) ?_ ?_
  rotate_left
  · simp only [Act.put, List.setIfInBounds_toArray, List.set_cons_zero, List.set_cons_succ, i64_w, i32_w]
    rfl
  refine pure_ (i := 16) (N := some 24) (v := ?_) (a' := ?_) #[true, true, true, true, true, true, true, true, true, true, true, true, true, true, true, true, true, false] rfl rfl (by kernel_rfl) (fun _ _ _ h => h) (Or.inl ⟨by rfl, ?_⟩) ?_ ?_
  rotate_left
  · intro w'
    go_simp
    with_reducible rfl
  rotate_left
  · simp only [Act.put, List.setIfInBounds_toArray, List.set_cons_zero, List.set_cons_succ, i64_w, i32_w]
    rfl
  refine pure_ (i := 17) (N := some 7) (v := ?_) (a' := ?_) #[true, true, true, true, true, true, true, true, true, true, true, true, true, true, true, true, true, true] rfl rfl (by kernel_rfl) (fun _ _ _ h => h) (Or.inl ⟨by rfl, ?_⟩) ?_ ?_
  rotate_left
  · intro w'
    go_simp
    with_reducible rfl
  rotate_left
  · simp only [Act.put, List.setIfInBounds_toArray, List.set_cons_zero, List.set_cons_succ, i64_w, i32_w]
    rfl
  refine done_ (by kernel_rfl) ?_
  go_wp2
  go_ret
  exact ⟨rfl, (Below.refl _ _).drew⟩
set_option maxRecDepth 100000 in
set_option maxHeartbeats 12800000 in
theorem put_leaf {w : World} (hT : Table w) {v vx : Value} {y x : Itm} {f d : Nat} (hv : Tree w v (.leaf y)) (hx : Tree w vx (.leaf x)) (hd : d + f = 256) (hg : pathK y.key ≠ pathK x.key → Good f [y, x]) :
    Calls Tryd.prog 75 #[v, vx, .int .i64 (d : Int)] w (Grew w (if pathK y.key = pathK x.key then .leaf x else treeF f [y, x])) := by
  have HS : Hid (∀ w', Below w.heap.size w w' → Calls Tryd.prog 77 #[v] w' fun e w'' => e = .returned (.bool true) ∧ w' = w'') := hid (fun w' h => single_leaf (Tree.below hv h))
  have TT := hid hT
  have VV := hid hv
  have XX := hid hx
  have HD := hid hd
  have HG := hid hg
  obtain ⟨ga, Ba, da, rfl, _, h3a, _⟩ := hv
  obtain ⟨gb, Bb, db, rfl, _, h3b, _⟩ := hx
  obtain ⟨-, -, ca, -, -, -, -⟩ := seven h3a
  obtain ⟨-, -, cb, -, -, -, -⟩ := seven h3b
  have B0 := hid (show Below w.heap.size w w.drew from (Below.refl _ _).drew)
  clear hT h3a h3b hd hg
  by_cases h : pathK y.key = pathK x.key
  · rw [if_pos h]
    have ht : ((pathS y.key).toList == (pathS x.key).toList) = true := by rw [path_eq.2 h]; simp
    obtain ⟨pa, hpa⟩ : ∃ p, p = pathS y.key := ⟨_, rfl⟩
    obtain ⟨pb, hpb⟩ : ∃ p, p = pathS x.key := ⟨_, rfl⟩
    rw [← hpa] at ca ht
    rw [← hpb] at cb ht
    clear h hpa hpb
    go_enter Tryd.func75, Tryd.ntmps75
    go_wp2
    refine start_ (n := 18) (S := fun w' => w'.cell? ⟨ga, 2, none⟩ = some (.string pa) ∧ w'.cell? ⟨gb, 2, none⟩ = some (.string pb)) (ds := []) #[false, false, false, false, false, false, false, false, false, false, false, false, false, false, false, false, false, false] (by kernel_rfl) rfl rfl ⟨ca, cb⟩ (fun hHeld => ?_)
    refine pure_ (i := 0) (N := some 8) (v := ?_) (a' := ?_) #[true, false, false, false, false, false, false, false, false, false, false, false, false, false, false, false, false, false] rfl rfl (by kernel_rfl) (fun _ _ _ h => h) (Or.inl ⟨by rfl, ?_⟩) ?_ ?_
    rotate_left
    · intro w'
      go_simp
      with_reducible rfl
    rotate_left
    · simp only [Act.put, List.setIfInBounds_toArray, List.set_cons_zero, List.set_cons_succ, i64_w, i32_w]
      rfl
    refine pure_ (i := 1) (N := some 9) (v := ?_) (a' := ?_) #[true, true, false, false, false, false, false, false, false, false, false, false, false, false, false, false, false, false] rfl rfl (by kernel_rfl) (fun _ _ _ h => h) (Or.inl ⟨by rfl, ?_⟩) ?_ ?_
    rotate_left
    · intro w'
      go_simp
      with_reducible rfl
    rotate_left
    · simp only [Act.put, List.setIfInBounds_toArray, List.set_cons_zero, List.set_cons_succ, i64_w, i32_w]
      rfl
    refine pure_ (i := 2) (N := some 10) (v := ?_) (a' := ?_) #[true, true, true, false, false, false, false, false, false, false, false, false, false, false, false, false, false, false] rfl rfl (by kernel_rfl) (fun _ _ _ h => h) (Or.inl ⟨by rfl, ?_⟩) ?_ ?_
    rotate_left
    · intro w'
      go_simp
      with_reducible rfl
    rotate_left
    · simp only [Act.put, List.setIfInBounds_toArray, List.set_cons_zero, List.set_cons_succ, i64_w, i32_w]
      rfl
    refine pure_ (i := 3) (N := some 11) (v := ?_) (a' := ?_) #[true, true, true, true, false, false, false, false, false, false, false, false, false, false, false, false, false, false] rfl rfl (by kernel_rfl) (fun _ _ _ h => h) (Or.inl ⟨by rfl, ?_⟩) ?_ ?_
    rotate_left
    · intro w'
      go_simp
      with_reducible rfl
    rotate_left
    · simp only [Act.put, List.setIfInBounds_toArray, List.set_cons_zero, List.set_cons_succ, i64_w, i32_w]
      rfl
    refine one_ (i := 4) (N := some 12) #[true, true, true, true, true, false, false, false, false, false, false, false, false, false, false, false, false, false] rfl rfl (by kernel_rfl) (by decide) (fun K hK => ?_)
    refine goes_ Tryd.func77 (by kernel_rfl) rfl #[.pointer (some ⟨ga, 0, none⟩)] (by rfl) rfl rfl (by simp only [List.map_toArray, List.map_cons, List.map_nil]; rfl) ?_
    with_reducible refine ((HS.out _ B0.out)).mono ?_
    rintro e' w1 ⟨rfl, rfl⟩
    refine ⟨_, rfl, ?_⟩
    refine hK.out _ _ ⟨hHeld.1, hHeld.2⟩ (fun hHeld => ?_)
    clear hK K
    refine norm_ (a' := ?_) ?_ ?_
    rotate_left
    · show Act.put _ (some 12) _ = _
      simp only [Act.put, List.setIfInBounds_toArray, List.set_cons_zero, List.set_cons_succ, i64_w, i32_w]
      rfl
    refine pure_ (i := 5) (N := some 13) (v := ?_) (a' := ?_) #[true, true, true, true, true, true, false, false, false, false, false, false, false, false, false, false, false, false] rfl rfl (by kernel_rfl) (fun _ _ _ h => h) (Or.inl ⟨by rfl, ?_⟩) ?_ ?_
    rotate_left
    · intro w'
      go_simp
      with_reducible rfl
    rotate_left
    · simp only [Act.put, List.setIfInBounds_toArray, List.set_cons_zero, List.set_cons_succ, i64_w, i32_w]
      rfl
    refine pure_ (i := 6) (N := some 14) (v := ?_) (a' := ?_) #[true, true, true, true, true, true, true, false, false, false, false, false, false, false, false, false, false, false] rfl rfl (by kernel_rfl) (fun _ _ _ h => h) (Or.inl ⟨by rfl, ?_⟩) ?_ ?_
    rotate_left
    · intro w'
      go_simp
      with_reducible rfl
    rotate_left
    · simp only [Act.put, List.setIfInBounds_toArray, List.set_cons_zero, List.set_cons_succ, i64_w, i32_w]
      rfl
    refine pure_ (i := 7) (N := some 15) (v := ?_) (a' := ?_) #[true, true, true, true, true, true, true, true, false, false, false, false, false, false, false, false, false, false] rfl rfl (by kernel_rfl) (fun _ _ _ h => h) (Or.inl ⟨by rfl, ?_⟩) ?_ ?_
    rotate_left
    · intro w'
      go_simp
      with_reducible rfl
    rotate_left
    · simp only [Act.put, List.setIfInBounds_toArray, List.set_cons_zero, List.set_cons_succ, i64_w, i32_w]
      rfl
    refine pure_ (i := 8) (N := some 16) (v := ?_) (a' := ?_) #[true, true, true, true, true, true, true, true, true, false, false, false, false, false, false, false, false, false] rfl rfl (by kernel_rfl) (fun _ _ _ h => h) (Or.inl ⟨by rfl, ?_⟩) ?_ ?_
    rotate_left
    · intro w'
      go_simp
      with_reducible rfl
    rotate_left
    · simp only [Act.put, List.setIfInBounds_toArray, List.set_cons_zero, List.set_cons_succ, i64_w, i32_w]
      rfl
    refine pure_ (i := 10) (N := some 18) (v := ?_) (a' := ?_) #[true, true, true, true, true, true, true, true, true, false, true, false, false, false, false, false, false, false] rfl rfl (by kernel_rfl) (fun _ _ _ h => h) (Or.inl ⟨by rfl, ?_⟩) ?_ ?_
    rotate_left
    · intro w'
      go_simp
      with_reducible rfl
    rotate_left
    · simp only [Act.put, List.setIfInBounds_toArray, List.set_cons_zero, List.set_cons_succ, i64_w, i32_w]
      rfl
    refine pure_ (i := 11) (N := some 19) (v := ?_) (a' := ?_) #[true, true, true, true, true, true, true, true, true, false, true, true, false, false, false, false, false, false] rfl rfl (by kernel_rfl) (fun _ _ _ h => h) (Or.inl ⟨by rfl, ?_⟩) ?_ ?_
    rotate_left
    · intro w'
      go_simp
      with_reducible rfl
    rotate_left
    · simp only [Act.put, List.setIfInBounds_toArray, List.set_cons_zero, List.set_cons_succ, i64_w, i32_w]
      rfl
    refine pure_ (i := 12) (N := some 20) (v := ?_) (a' := ?_) #[true, true, true, true, true, true, true, true, true, false, true, true, true, false, false, false, false, false] rfl rfl (by kernel_rfl) (fun _ _ _ h => h) (Or.inl ⟨by rfl, ?_⟩) ?_ ?_
    rotate_left
    · intro w'
      go_simp
      with_reducible rfl
    rotate_left
    · simp only [Act.put, List.setIfInBounds_toArray, List.set_cons_zero, List.set_cons_succ, i64_w, i32_w]
      rfl
    refine take_ (i := 9) (N := some 17) (v := ?_) (a' := ?_) #[true, true, true, true, true, true, true, true, true, true, true, true, true, false, false, false, false, false] rfl rfl (by kernel_rfl) (fun _ _ _ h => h) (Or.inl ⟨by rfl, ?_⟩) hHeld ?_ ?_
    rotate_left
    · rintro w' ⟨s0, s1⟩
      go_simp
      with_reducible rfl
    rotate_left
    · simp only [Act.put, List.setIfInBounds_toArray, List.set_cons_zero, List.set_cons_succ, i64_w, i32_w]
      rfl
    refine take_ (i := 13) (N := some 21) (v := ?_) (a' := ?_) #[true, true, true, true, true, true, true, true, true, true, true, true, true, true, false, false, false, false] rfl rfl (by kernel_rfl) (fun _ _ _ h => h) (Or.inl ⟨by rfl, ?_⟩) hHeld ?_ ?_
    rotate_left
    · rintro w' ⟨s0, s1⟩
      go_simp
      with_reducible rfl
    rotate_left
    · simp only [Act.put, List.setIfInBounds_toArray, List.set_cons_zero, List.set_cons_succ, i64_w, i32_w]
      rfl
    refine pure_ (i := 14) (N := some 22) (v := ?_) (a' := ?_) #[true, true, true, true, true, true, true, true, true, true, true, true, true, true, true, false, false, false] rfl rfl (by kernel_rfl) (fun _ _ _ h => h) (Or.inl ⟨by rfl, ?_⟩) ?_ ?_
    rotate_left
    · intro w'
      go_simp
      with_reducible rfl
    rotate_left
    · simp only [Act.put, List.setIfInBounds_toArray, List.set_cons_zero, List.set_cons_succ, i64_w, i32_w]
      rfl
    refine pure_ (i := 15) (N := some 23) (v := ?_) (a' := ?_) #[true, true, true, true, true, true, true, true, true, true, true, true, true, true, true, true, false, false] rfl rfl (by kernel_rfl) (fun _ _ _ h => h) (Or.inl ⟨by rfl, ?_⟩) ?_ ?_
    rotate_left
    · intro w'
      go_simp
      with_reducible rfl
    rotate_left
    · simp only [Act.put, List.setIfInBounds_toArray, List.set_cons_zero, List.set_cons_succ, i64_w, i32_w]
      rfl
    refine pure_ (i := 16) (N := some 24) (v := ?_) (a' := ?_) #[true, true, true, true, true, true, true, true, true, true, true, true, true, true, true, true, true, false] rfl rfl (by kernel_rfl) (fun _ _ _ h => h) (Or.inl ⟨by rfl, ?_⟩) ?_ ?_
    rotate_left
    · intro w'
      go_simp
      with_reducible rfl
    rotate_left
    · simp only [Act.put, List.setIfInBounds_toArray, List.set_cons_zero, List.set_cons_succ, i64_w, i32_w]
      rfl
    refine pure_ (i := 17) (N := some 7) (v := ?_) (a' := ?_) #[true, true, true, true, true, true, true, true, true, true, true, true, true, true, true, true, true, true] rfl rfl (by kernel_rfl) (fun _ _ _ h => h) (Or.inl ⟨by rfl, ?_⟩) ?_ ?_
    rotate_left
    · intro w'
      go_simp
      with_reducible rfl
    rotate_left
    · simp only [Act.put, List.setIfInBounds_toArray, List.set_cons_zero, List.set_cons_succ, i64_w, i32_w]
      rfl
    refine done_ (by kernel_rfl) ?_
    have FX := hid (Tree.below XX.out B0.out)
    go_wp2
    go_ret
    exact ⟨_, rfl, FX.out, B0.out⟩
  · rw [if_neg h]
    have ht : ((pathS y.key).toList == (pathS x.key).toList) = false := by rw [str_beq]; simp; intro e; exact h (path_eq.1 e)
    have APW := hid (apart_walk f _ _ _ _ _ _ (TT.out.below B0.out) (Tree.below VV.out B0.out) (Tree.below XX.out B0.out) (HG.out h) HD.out)
    obtain ⟨pa, hpa⟩ : ∃ p, p = pathS y.key := ⟨_, rfl⟩
    obtain ⟨pb, hpb⟩ : ∃ p, p = pathS x.key := ⟨_, rfl⟩
    rw [← hpa] at ca ht
    rw [← hpb] at cb ht
    clear h hpa hpb
    go_enter Tryd.func75, Tryd.ntmps75
    go_wp2
    refine start_ (n := 18) (S := fun w' => w'.cell? ⟨ga, 2, none⟩ = some (.string pa) ∧ w'.cell? ⟨gb, 2, none⟩ = some (.string pb)) (ds := []) #[false, false, false, false, false, false, false, false, false, false, false, false, false, false, false, false, false, false] (by kernel_rfl) rfl rfl ⟨ca, cb⟩ (fun hHeld => ?_)
    refine pure_ (i := 0) (N := some 8) (v := ?_) (a' := ?_) #[true, false, false, false, false, false, false, false, false, false, false, false, false, false, false, false, false, false] rfl rfl (by kernel_rfl) (fun _ _ _ h => h) (Or.inl ⟨by rfl, ?_⟩) ?_ ?_
    rotate_left
    · intro w'
      go_simp
      with_reducible rfl
    rotate_left
    · simp only [Act.put, List.setIfInBounds_toArray, List.set_cons_zero, List.set_cons_succ, i64_w, i32_w]
      rfl
    refine pure_ (i := 1) (N := some 9) (v := ?_) (a' := ?_) #[true, true, false, false, false, false, false, false, false, false, false, false, false, false, false, false, false, false] rfl rfl (by kernel_rfl) (fun _ _ _ h => h) (Or.inl ⟨by rfl, ?_⟩) ?_ ?_
    rotate_left
    · intro w'
      go_simp
      with_reducible rfl
    rotate_left
    · simp only [Act.put, List.setIfInBounds_toArray, List.set_cons_zero, List.set_cons_succ, i64_w, i32_w]
      rfl
    refine pure_ (i := 2) (N := some 10) (v := ?_) (a' := ?_) #[true, true, true, false, false, false, false, false, false, false, false, false, false, false, false, false, false, false] rfl rfl (by kernel_rfl) (fun _ _ _ h => h) (Or.inl ⟨by rfl, ?_⟩) ?_ ?_
    rotate_left
    · intro w'
      go_simp
      with_reducible rfl
    rotate_left
    · simp only [Act.put, List.setIfInBounds_toArray, List.set_cons_zero, List.set_cons_succ, i64_w, i32_w]
      rfl
    refine pure_ (i := 3) (N := some 11) (v := ?_) (a' := ?_) #[true, true, true, true, false, false, false, false, false, false, false, false, false, false, false, false, false, false] rfl rfl (by kernel_rfl) (fun _ _ _ h => h) (Or.inl ⟨by rfl, ?_⟩) ?_ ?_
    rotate_left
    · intro w'
      go_simp
      with_reducible rfl
    rotate_left
    · simp only [Act.put, List.setIfInBounds_toArray, List.set_cons_zero, List.set_cons_succ, i64_w, i32_w]
      rfl
    refine one_ (i := 4) (N := some 12) #[true, true, true, true, true, false, false, false, false, false, false, false, false, false, false, false, false, false] rfl rfl (by kernel_rfl) (by decide) (fun K hK => ?_)
    refine goes_ Tryd.func77 (by kernel_rfl) rfl #[.pointer (some ⟨ga, 0, none⟩)] (by rfl) rfl rfl (by simp only [List.map_toArray, List.map_cons, List.map_nil]; rfl) ?_
    with_reducible refine ((HS.out _ B0.out)).mono ?_
    rintro e' w1 ⟨rfl, rfl⟩
    refine ⟨_, rfl, ?_⟩
    refine hK.out _ _ ⟨hHeld.1, hHeld.2⟩ (fun hHeld => ?_)
    clear hK K
    refine norm_ (a' := ?_) ?_ ?_
    rotate_left
    · show Act.put _ (some 12) _ = _
      simp only [Act.put, List.setIfInBounds_toArray, List.set_cons_zero, List.set_cons_succ, i64_w, i32_w]
      rfl
    refine pure_ (i := 5) (N := some 13) (v := ?_) (a' := ?_) #[true, true, true, true, true, true, false, false, false, false, false, false, false, false, false, false, false, false] rfl rfl (by kernel_rfl) (fun _ _ _ h => h) (Or.inl ⟨by rfl, ?_⟩) ?_ ?_
    rotate_left
    · intro w'
      go_simp
      with_reducible rfl
    rotate_left
    · simp only [Act.put, List.setIfInBounds_toArray, List.set_cons_zero, List.set_cons_succ, i64_w, i32_w]
      rfl
    refine pure_ (i := 6) (N := some 14) (v := ?_) (a' := ?_) #[true, true, true, true, true, true, true, false, false, false, false, false, false, false, false, false, false, false] rfl rfl (by kernel_rfl) (fun _ _ _ h => h) (Or.inl ⟨by rfl, ?_⟩) ?_ ?_
    rotate_left
    · intro w'
      go_simp
      with_reducible rfl
    rotate_left
    · simp only [Act.put, List.setIfInBounds_toArray, List.set_cons_zero, List.set_cons_succ, i64_w, i32_w]
      rfl
    refine pure_ (i := 7) (N := some 15) (v := ?_) (a' := ?_) #[true, true, true, true, true, true, true, true, false, false, false, false, false, false, false, false, false, false] rfl rfl (by kernel_rfl) (fun _ _ _ h => h) (Or.inl ⟨by rfl, ?_⟩) ?_ ?_
    rotate_left
    · intro w'
      go_simp
      with_reducible rfl
    rotate_left
    · simp only [Act.put, List.setIfInBounds_toArray, List.set_cons_zero, List.set_cons_succ, i64_w, i32_w]
      rfl
    refine pure_ (i := 8) (N := some 16) (v := ?_) (a' := ?_) #[true, true, true, true, true, true, true, true, true, false, false, false, false, false, false, false, false, false] rfl rfl (by kernel_rfl) (fun _ _ _ h => h) (Or.inl ⟨by rfl, ?_⟩) ?_ ?_
    rotate_left
    · intro w'
      go_simp
      with_reducible rfl
    rotate_left
    · simp only [Act.put, List.setIfInBounds_toArray, List.set_cons_zero, List.set_cons_succ, i64_w, i32_w]
      rfl
    refine pure_ (i := 10) (N := some 18) (v := ?_) (a' := ?_) #[true, true, true, true, true, true, true, true, true, false, true, false, false, false, false, false, false, false] rfl rfl (by kernel_rfl) (fun _ _ _ h => h) (Or.inl ⟨by rfl, ?_⟩) ?_ ?_
    rotate_left
    · intro w'
      go_simp
      with_reducible rfl
    rotate_left
    · simp only [Act.put, List.setIfInBounds_toArray, List.set_cons_zero, List.set_cons_succ, i64_w, i32_w]
      rfl
    refine pure_ (i := 11) (N := some 19) (v := ?_) (a' := ?_) #[true, true, true, true, true, true, true, true, true, false, true, true, false, false, false, false, false, false] rfl rfl (by kernel_rfl) (fun _ _ _ h => h) (Or.inl ⟨by rfl, ?_⟩) ?_ ?_
    rotate_left
    · intro w'
      go_simp
      with_reducible rfl
    rotate_left
    · simp only [Act.put, List.setIfInBounds_toArray, List.set_cons_zero, List.set_cons_succ, i64_w, i32_w]
      rfl
    refine pure_ (i := 12) (N := some 20) (v := ?_) (a' := ?_) #[true, true, true, true, true, true, true, true, true, false, true, true, true, false, false, false, false, false] rfl rfl (by kernel_rfl) (fun _ _ _ h => h) (Or.inl ⟨by rfl, ?_⟩) ?_ ?_
    rotate_left
    · intro w'
      go_simp
      with_reducible rfl
    rotate_left
    · simp only [Act.put, List.setIfInBounds_toArray, List.set_cons_zero, List.set_cons_succ, i64_w, i32_w]
      rfl
    refine take_ (i := 9) (N := some 17) (v := ?_) (a' := ?_) #[true, true, true, true, true, true, true, true, true, true, true, true, true, false, false, false, false, false] rfl rfl (by kernel_rfl) (fun _ _ _ h => h) (Or.inl ⟨by rfl, ?_⟩) hHeld ?_ ?_
    rotate_left
    · rintro w' ⟨s0, s1⟩
      go_simp
      with_reducible rfl
    rotate_left
    · simp only [Act.put, List.setIfInBounds_toArray, List.set_cons_zero, List.set_cons_succ, i64_w, i32_w]
      rfl
    refine take_ (i := 13) (N := some 21) (v := ?_) (a' := ?_) #[true, true, true, true, true, true, true, true, true, true, true, true, true, true, false, false, false, false] rfl rfl (by kernel_rfl) (fun _ _ _ h => h) (Or.inl ⟨by rfl, ?_⟩) hHeld ?_ ?_
    rotate_left
    · rintro w' ⟨s0, s1⟩
      go_simp
      with_reducible rfl
    rotate_left
    · simp only [Act.put, List.setIfInBounds_toArray, List.set_cons_zero, List.set_cons_succ, i64_w, i32_w]
      rfl
    refine pure_ (i := 14) (N := some 22) (v := ?_) (a' := ?_) #[true, true, true, true, true, true, true, true, true, true, true, true, true, true, true, false, false, false] rfl rfl (by kernel_rfl) (fun _ _ _ h => h) (Or.inl ⟨by rfl, ?_⟩) ?_ ?_
    rotate_left
    · intro w'
      go_simp
      with_reducible rfl
    rotate_left
    · simp only [Act.put, List.setIfInBounds_toArray, List.set_cons_zero, List.set_cons_succ, i64_w, i32_w]
      rfl
    refine pure_ (i := 15) (N := some 23) (v := ?_) (a' := ?_) #[true, true, true, true, true, true, true, true, true, true, true, true, true, true, true, true, false, false] rfl rfl (by kernel_rfl) (fun _ _ _ h => h) (Or.inl ⟨by rfl, ?_⟩) ?_ ?_
    rotate_left
    · intro w'
      go_simp
      with_reducible rfl
    rotate_left
    · simp only [Act.put, List.setIfInBounds_toArray, List.set_cons_zero, List.set_cons_succ, i64_w, i32_w]
      rfl
    refine pure_ (i := 16) (N := some 24) (v := ?_) (a' := ?_) #[true, true, true, true, true, true, true, true, true, true, true, true, true, true, true, true, true, false] rfl rfl (by kernel_rfl) (fun _ _ _ h => h) (Or.inl ⟨by rfl, ?_⟩) ?_ ?_
    rotate_left
    · intro w'
      go_simp
      with_reducible rfl
    rotate_left
    · simp only [Act.put, List.setIfInBounds_toArray, List.set_cons_zero, List.set_cons_succ, i64_w, i32_w]
      rfl
    refine pure_ (i := 17) (N := some 7) (v := ?_) (a' := ?_) #[true, true, true, true, true, true, true, true, true, true, true, true, true, true, true, true, true, true] rfl rfl (by kernel_rfl) (fun _ _ _ h => h) (Or.inl ⟨by rfl, ?_⟩) ?_ ?_
    rotate_left
    · intro w'
      go_simp
      with_reducible rfl
    rotate_left
    · simp only [Act.put, List.setIfInBounds_toArray, List.set_cons_zero, List.set_cons_succ, i64_w, i32_w]
      rfl
    refine done_ (by kernel_rfl) ?_
    have HS2 := hid (HS.out _ B0.out)
    clear ca cb
    go_wp2_with fail
    refine HS2.out.mono ?_
    rintro e w1 ⟨rfl, rfl⟩
    clear HS2
    go_wp2_with fail
    refine APW.out.mono ?_
    rintro e w2 ⟨v2, rfl, t2, b2⟩
    have B2 := below_then B0.out b2
    go_wp2
    go_ret
    exact ⟨v2, rfl, t2, B2⟩

set_option maxRecDepth 100000 in
set_option maxHeartbeats 12800000 in
theorem put_node {w : World} (hT : Table w) {v vx : Value} {l r t' : Tr} {x : Itm} {f d : Nat} (hv : Tree w v (.node l r)) (hx : Tree w vx (.leaf x)) (hd : d + (f + 1) = 256) (fl : Fine l) (fr : Fine r) (ft : Fine t')
    (rec_ : ∀ (w' : World) (v' : Value), Table w' → Tree w' v' (if btK x.key d = 0 then l else r) → Tree w' vx (.leaf x) → Calls Tryd.prog 75 #[v', vx, .int .i64 ((d + 1 : Nat) : Int)] w' (Grew w' t')) :
    Calls Tryd.prog 75 #[v, vx, .int .i64 (d : Int)] w (Grew w (if btK x.key d = 0 then joinT t' r else joinT l t')) := by
  have TT := hid hT
  have VV := hid hv
  have XX := hid hx
  have HS : Hid (∀ w', Below w.heap.size w w' → Calls Tryd.prog 77 #[v] w' fun e w'' => e = .returned (.bool false) ∧ w' = w'') := hid (fun w' h => single_node (Tree.below hv h))
  have HH : Hid (∀ w', Below w.heap.size w w' → Calls Tryd.prog 85 #[v, .string (pathS x.key), .int .i64 (d : Int)] w' fun e w'' => ∃ v', e = .returned v' ∧ Tree w' v' (if btK x.key d = 0 then l else r) ∧ w' = w'') := hid (fun w' h => half_any (by omega) (Tree.below hv h))
  have RC : Hid (∀ (w' : World) (v' : Value), Table w' → Tree w' v' (if btK x.key d = 0 then l else r) → Tree w' vx (.leaf x) → Calls Tryd.prog 75 #[v', vx, .int .i64 ((d : Int) + 1)] w' (Grew w' t')) := hid (by
    intro w' v' h1 h2 h3
    have := rec_ _ _ h1 h2 h3
    rwa [show ((d + 1 : Nat) : Int) = (d : Int) + 1 by omega] at this)
  have HW : Hid (∀ w' v', Below w.heap.size w w' → Table w' → Tree w' v' t' → Calls Tryd.prog 84 #[v, .string (pathS x.key), .int .i64 (d : Int), v'] w' (Grew w' (if btK x.key d = 0 then joinT t' r else joinT l t'))) := hid (fun w' v' h h1 h2 => with_any h1 (by omega) (Tree.below hv h) h2 fl fr ft)
  obtain ⟨ga, va, vb, rfl, _⟩ := hv
  obtain ⟨gb, Bb, db, rfl, _, h3b, _⟩ := hx
  obtain ⟨-, -, cb, -, -, -, -⟩ := seven h3b
  have B0 := hid (show Below w.heap.size w w.drew from (Below.refl _ _).drew)
  have B00 := hid (show Below w.heap.size w w.drew.drew from (Below.refl _ _).drew.drew)
  obtain ⟨p, hp⟩ : ∃ p, p = pathS x.key := ⟨_, rfl⟩
  rw [← hp] at cb HH HW
  have hdb : d ≤ 256 := by omega
  have wd2 : IntKind.i64.wrap ((d : Int) + 1) = (d : Int) + 1 := IntWalk.i64_in _ (by omega)
  have wd1 : wrap64 ((d : Int) + 1) = (d : Int) + 1 := by unfold wrap64; omega
  have T2 := hid (TT.out.below B00.out)
  have V2 := hid (Tree.below XX.out B00.out)
  have HH2 := hid (HH.out _ B00.out)
  clear hT h3b hp rec_ fl fr ft hd
  generalize (if btK x.key d = 0 then joinT t' r else joinT l t') = RR at *
  generalize (if btK x.key d = 0 then l else r) = HF at *
  go_enter Tryd.func75, Tryd.ntmps75
  go_wp2
  refine start_ (n := 18) (S := fun w' => w'.cell? ⟨gb, 2, none⟩ = some (.string p)) (ds := []) #[false, false, false, false, false, false, false, false, false, false, false, false, false, false, false, false, false, false] (by kernel_rfl) rfl rfl (cb) (fun hHeld => ?_)
  refine pure_ (i := 0) (N := some 8) (v := ?_) (a' := ?_) #[true, false, false, false, false, false, false, false, false, false, false, false, false, false, false, false, false, false] rfl rfl (by kernel_rfl) (fun _ _ _ h => h) (Or.inl ⟨by rfl, ?_⟩) ?_ ?_
  rotate_left
  · intro w'
    go_simp
    with_reducible rfl
  rotate_left
  · simp only [Act.put, List.setIfInBounds_toArray, List.set_cons_zero, List.set_cons_succ, i64_w, i32_w]
    rfl
  refine pure_ (i := 1) (N := some 9) (v := ?_) (a' := ?_) #[true, true, false, false, false, false, false, false, false, false, false, false, false, false, false, false, false, false] rfl rfl (by kernel_rfl) (fun _ _ _ h => h) (Or.inl ⟨by rfl, ?_⟩) ?_ ?_
  rotate_left
  · intro w'
    go_simp
    with_reducible rfl
  rotate_left
  · simp only [Act.put, List.setIfInBounds_toArray, List.set_cons_zero, List.set_cons_succ, i64_w, i32_w]
    rfl
  refine pure_ (i := 2) (N := some 10) (v := ?_) (a' := ?_) #[true, true, true, false, false, false, false, false, false, false, false, false, false, false, false, false, false, false] rfl rfl (by kernel_rfl) (fun _ _ _ h => h) (Or.inl ⟨by rfl, ?_⟩) ?_ ?_
  rotate_left
  · intro w'
    go_simp
    with_reducible rfl
  rotate_left
  · simp only [Act.put, List.setIfInBounds_toArray, List.set_cons_zero, List.set_cons_succ, i64_w, i32_w]
    rfl
  refine pure_ (i := 3) (N := some 11) (v := ?_) (a' := ?_) #[true, true, true, true, false, false, false, false, false, false, false, false, false, false, false, false, false, false] rfl rfl (by kernel_rfl) (fun _ _ _ h => h) (Or.inl ⟨by rfl, ?_⟩) ?_ ?_
  rotate_left
  · intro w'
    go_simp
    with_reducible rfl
  rotate_left
  · simp only [Act.put, List.setIfInBounds_toArray, List.set_cons_zero, List.set_cons_succ, i64_w, i32_w]
    rfl
  refine one_ (i := 4) (N := some 12) #[true, true, true, true, true, false, false, false, false, false, false, false, false, false, false, false, false, false] rfl rfl (by kernel_rfl) (by decide) (fun K hK => ?_)
  refine goes_ Tryd.func77 (by kernel_rfl) rfl #[.pointer (some ⟨ga, 0, none⟩)] (by rfl) rfl rfl (by simp only [List.map_toArray, List.map_cons, List.map_nil]; rfl) ?_
  with_reducible refine ((HS.out _ B0.out)).mono ?_
  rintro e' w1 ⟨rfl, rfl⟩
  refine ⟨_, rfl, ?_⟩
  refine hK.out _ _ (hHeld) (fun hHeld => ?_)
  clear hK K
  refine norm_ (a' := ?_) ?_ ?_
  rotate_left
  · show Act.put _ (some 12) _ = _
    simp only [Act.put, List.setIfInBounds_toArray, List.set_cons_zero, List.set_cons_succ, i64_w, i32_w]
    rfl
  refine pure_ (i := 5) (N := some 13) (v := ?_) (a' := ?_) #[true, true, true, true, true, true, false, false, false, false, false, false, false, false, false, false, false, false] rfl rfl (by kernel_rfl) (fun _ _ _ h => h) (Or.inl ⟨by rfl, ?_⟩) ?_ ?_
  rotate_left
  · intro w'
    go_simp
    with_reducible rfl
  rotate_left
  · simp only [Act.put, List.setIfInBounds_toArray, List.set_cons_zero, List.set_cons_succ, i64_w, i32_w]
    rfl
  refine pure_ (i := 6) (N := some 14) (v := undef) (a' := ?_) #[true, true, true, true, true, true, true, false, false, false, false, false, false, false, false, false, false, false] rfl rfl (by kernel_rfl) (fun _ _ _ h => h) (Or.inr ⟨by rfl, rfl⟩) ?_ ?_
  rotate_left
  · simp only [Act.put, List.setIfInBounds_toArray, List.set_cons_zero, List.set_cons_succ, i64_w, i32_w]
    rfl
  refine pure_ (i := 7) (N := some 15) (v := undef) (a' := ?_) #[true, true, true, true, true, true, true, true, false, false, false, false, false, false, false, false, false, false] rfl rfl (by kernel_rfl) (fun _ _ _ h => h) (Or.inr ⟨by rfl, rfl⟩) ?_ ?_
  rotate_left
  · simp only [Act.put, List.setIfInBounds_toArray, List.set_cons_zero, List.set_cons_succ, i64_w, i32_w]
    rfl
  refine pure_ (i := 8) (N := some 16) (v := undef) (a' := ?_) #[true, true, true, true, true, true, true, true, true, false, false, false, false, false, false, false, false, false] rfl rfl (by kernel_rfl) (fun _ _ _ h => h) (Or.inr ⟨by rfl, rfl⟩) ?_ ?_
  rotate_left
  · simp only [Act.put, List.setIfInBounds_toArray, List.set_cons_zero, List.set_cons_succ, i64_w, i32_w]
    rfl
  refine pure_ (i := 9) (N := some 17) (v := undef) (a' := ?_) #[true, true, true, true, true, true, true, true, true, true, false, false, false, false, false, false, false, false] rfl rfl (by kernel_rfl) (fun _ _ _ h => h) (Or.inr ⟨by rfl, rfl⟩) ?_ ?_
  rotate_left
  · simp only [Act.put, List.setIfInBounds_toArray, List.set_cons_zero, List.set_cons_succ, i64_w, i32_w]
    rfl
  refine pure_ (i := 10) (N := some 18) (v := undef) (a' := ?_) #[true, true, true, true, true, true, true, true, true, true, true, false, false, false, false, false, false, false] rfl rfl (by kernel_rfl) (fun _ _ _ h => h) (Or.inr ⟨by rfl, rfl⟩) ?_ ?_
  rotate_left
  · simp only [Act.put, List.setIfInBounds_toArray, List.set_cons_zero, List.set_cons_succ, i64_w, i32_w]
    rfl
  refine pure_ (i := 11) (N := some 19) (v := undef) (a' := ?_) #[true, true, true, true, true, true, true, true, true, true, true, true, false, false, false, false, false, false] rfl rfl (by kernel_rfl) (fun _ _ _ h => h) (Or.inr ⟨by rfl, rfl⟩) ?_ ?_
  rotate_left
  · simp only [Act.put, List.setIfInBounds_toArray, List.set_cons_zero, List.set_cons_succ, i64_w, i32_w]
    rfl
  refine pure_ (i := 12) (N := some 20) (v := undef) (a' := ?_) #[true, true, true, true, true, true, true, true, true, true, true, true, true, false, false, false, false, false] rfl rfl (by kernel_rfl) (fun _ _ _ h => h) (Or.inr ⟨by rfl, rfl⟩) ?_ ?_
  rotate_left
  · simp only [Act.put, List.setIfInBounds_toArray, List.set_cons_zero, List.set_cons_succ, i64_w, i32_w]
    rfl
  refine pure_ (i := 13) (N := some 21) (v := undef) (a' := ?_) #[true, true, true, true, true, true, true, true, true, true, true, true, true, true, false, false, false, false] rfl rfl (by kernel_rfl) (fun _ _ _ h => h) (Or.inr ⟨by rfl, rfl⟩) ?_ ?_
  rotate_left
  · simp only [Act.put, List.setIfInBounds_toArray, List.set_cons_zero, List.set_cons_succ, i64_w, i32_w]
    rfl
  refine pure_ (i := 14) (N := some 22) (v := undef) (a' := ?_) #[true, true, true, true, true, true, true, true, true, true, true, true, true, true, true, false, false, false] rfl rfl (by kernel_rfl) (fun _ _ _ h => h) (Or.inr ⟨by rfl, rfl⟩) ?_ ?_
  rotate_left
  · simp only [Act.put, List.setIfInBounds_toArray, List.set_cons_zero, List.set_cons_succ, i64_w, i32_w]
    rfl
  refine pure_ (i := 15) (N := some 23) (v := ?_) (a' := ?_) #[true, true, true, true, true, true, true, true, true, true, true, true, true, true, true, true, false, false] rfl rfl (by kernel_rfl) (fun _ _ _ h => h) (Or.inl ⟨by rfl, ?_⟩) ?_ ?_
  rotate_left
  · intro w'
    go_simp
    with_reducible rfl
  rotate_left
  · simp only [Act.put, List.setIfInBounds_toArray, List.set_cons_zero, List.set_cons_succ, i64_w, i32_w]
    rfl
  refine pure_ (i := 16) (N := some 24) (v := ?_) (a' := ?_) #[true, true, true, true, true, true, true, true, true, true, true, true, true, true, true, true, true, false] rfl rfl (by kernel_rfl) (fun _ _ _ h => h) (Or.inl ⟨by rfl, ?_⟩) ?_ ?_
  rotate_left
  · intro w'
    go_simp
    with_reducible rfl
  rotate_left
  · simp only [Act.put, List.setIfInBounds_toArray, List.set_cons_zero, List.set_cons_succ, i64_w, i32_w]
    rfl
  refine pure_ (i := 17) (N := some 7) (v := ?_) (a' := ?_) #[true, true, true, true, true, true, true, true, true, true, true, true, true, true, true, true, true, true] rfl rfl (by kernel_rfl) (fun _ _ _ h => h) (Or.inl ⟨by rfl, ?_⟩) ?_ ?_
  rotate_left
  · intro w'
    go_simp
    with_reducible rfl
  rotate_left
  · simp only [Act.put, List.setIfInBounds_toArray, List.set_cons_zero, List.set_cons_succ, i64_w, i32_w]
    rfl
  refine done_ (by kernel_rfl) ?_
  have HS2 := hid (HS.out _ B0.out)
  clear cb
  go_wp2_with fail
  refine HS2.out.mono ?_
  rintro e w1 ⟨rfl, rfl⟩
  have cb : w.drew.cell? ⟨gb, 2, none⟩ = some (.string p) := by first | exact hHeld | assumption
  clear HS2
  go_wp2
  refine start_ (n := 19) (S := fun w' => w'.cell? ⟨gb, 2, none⟩ = some (.string p)) (ds := []) #[false, false, false, false, false, false, false, false, false, false, false, false, false, false, false, false, false, false, false] (by kernel_rfl) rfl rfl (cb) (fun hHeld => ?_)
  refine pure_ (i := 0) (N := some 33) (v := ?_) (a' := ?_) #[true, false, false, false, false, false, false, false, false, false, false, false, false, false, false, false, false, false, false] rfl rfl (by kernel_rfl) (fun _ _ _ h => h) (Or.inl ⟨by rfl, ?_⟩) ?_ ?_
  rotate_left
  · intro w'
    go_simp
    with_reducible rfl
  rotate_left
  · simp only [Act.put, List.setIfInBounds_toArray, List.set_cons_zero, List.set_cons_succ, i64_w, i32_w]
    rfl
  refine pure_ (i := 1) (N := some 34) (v := ?_) (a' := ?_) #[true, true, false, false, false, false, false, false, false, false, false, false, false, false, false, false, false, false, false] rfl rfl (by kernel_rfl) (fun _ _ _ h => h) (Or.inl ⟨by rfl, ?_⟩) ?_ ?_
  rotate_left
  · intro w'
    go_simp
    with_reducible rfl
  rotate_left
  · simp only [Act.put, List.setIfInBounds_toArray, List.set_cons_zero, List.set_cons_succ, i64_w, i32_w]
    rfl
  refine pure_ (i := 2) (N := some 35) (v := ?_) (a' := ?_) #[true, true, true, false, false, false, false, false, false, false, false, false, false, false, false, false, false, false, false] rfl rfl (by kernel_rfl) (fun _ _ _ h => h) (Or.inl ⟨by rfl, ?_⟩) ?_ ?_
  rotate_left
  · intro w'
    go_simp
    with_reducible rfl
  rotate_left
  · simp only [Act.put, List.setIfInBounds_toArray, List.set_cons_zero, List.set_cons_succ, i64_w, i32_w]
    rfl
  refine pure_ (i := 3) (N := some 36) (v := ?_) (a' := ?_) #[true, true, true, true, false, false, false, false, false, false, false, false, false, false, false, false, false, false, false] rfl rfl (by kernel_rfl) (fun _ _ _ h => h) (Or.inl ⟨by rfl, ?_⟩) ?_ ?_
  rotate_left
  · intro w'
    go_simp
    with_reducible rfl
  rotate_left
  · simp only [Act.put, List.setIfInBounds_toArray, List.set_cons_zero, List.set_cons_succ, i64_w, i32_w]
    rfl
  refine pure_ (i := 5) (N := some 38) (v := ?_) (a' := ?_) #[true, true, true, true, false, true, false, false, false, false, false, false, false, false, false, false, false, false, false] rfl rfl (by kernel_rfl) (fun _ _ _ h => h) (Or.inl ⟨by rfl, ?_⟩) ?_ ?_
  rotate_left
  · intro w'
    go_simp
    with_reducible rfl
  rotate_left
  · simp only [Act.put, List.setIfInBounds_toArray, List.set_cons_zero, List.set_cons_succ, i64_w, i32_w]
    rfl
  refine pure_ (i := 6) (N := some 39) (v := ?_) (a' := ?_) #[true, true, true, true, false, true, true, false, false, false, false, false, false, false, false, false, false, false, false] rfl rfl (by kernel_rfl) (fun _ _ _ h => h) (Or.inl ⟨by rfl, ?_⟩) ?_ ?_
  rotate_left
  · intro w'
    go_simp
    with_reducible rfl
  rotate_left
  · simp only [Act.put, List.setIfInBounds_toArray, List.set_cons_zero, List.set_cons_succ, i64_w, i32_w]
    rfl
  refine pure_ (i := 7) (N := some 40) (v := ?_) (a' := ?_) #[true, true, true, true, false, true, true, true, false, false, false, false, false, false, false, false, false, false, false] rfl rfl (by kernel_rfl) (fun _ _ _ h => h) (Or.inl ⟨by rfl, ?_⟩) ?_ ?_
  rotate_left
  · intro w'
    go_simp
    with_reducible rfl
  rotate_left
  · simp only [Act.put, List.setIfInBounds_toArray, List.set_cons_zero, List.set_cons_succ, i64_w, i32_w]
    rfl
  refine pure_ (i := 8) (N := some 41) (v := ?_) (a' := ?_) #[true, true, true, true, false, true, true, true, true, false, false, false, false, false, false, false, false, false, false] rfl rfl (by kernel_rfl) (fun _ _ _ h => h) (Or.inl ⟨by rfl, ?_⟩) ?_ ?_
  rotate_left
  · intro w'
    go_simp
    with_reducible rfl
  rotate_left
  · simp only [Act.put, List.setIfInBounds_toArray, List.set_cons_zero, List.set_cons_succ, i64_w, i32_w]
    rfl
  refine pure_ (i := 9) (N := some 42) (v := ?_) (a' := ?_) #[true, true, true, true, false, true, true, true, true, true, false, false, false, false, false, false, false, false, false] rfl rfl (by kernel_rfl) (fun _ _ _ h => h) (Or.inl ⟨by rfl, ?_⟩) ?_ ?_
  rotate_left
  · intro w'
    go_simp
    with_reducible rfl
  rotate_left
  · simp only [Act.put, List.setIfInBounds_toArray, List.set_cons_zero, List.set_cons_succ, i64_w, i32_w]
    rfl
  refine pure_ (i := 11) (N := some 44) (v := ?_) (a' := ?_) #[true, true, true, true, false, true, true, true, true, true, false, true, false, false, false, false, false, false, false] rfl rfl (by kernel_rfl) (fun _ _ _ h => h) (Or.inl ⟨by rfl, ?_⟩) ?_ ?_
  rotate_left
  · intro w'
    go_simp
    with_reducible rfl
  rotate_left
  · simp only [Act.put, List.setIfInBounds_toArray, List.set_cons_zero, List.set_cons_succ, i64_w, i32_w]
    rfl
  refine pure_ (i := 13) (N := some 46) (v := ?_) (a' := ?_) #[true, true, true, true, false, true, true, true, true, true, false, true, false, true, false, false, false, false, false] rfl rfl (by kernel_rfl) (fun _ _ _ h => h) (Or.inl ⟨by rfl, ?_⟩) ?_ ?_
  rotate_left
  · intro w'
    go_simp
    with_reducible rfl
  rotate_left
  · simp only [Act.put, List.setIfInBounds_toArray, List.set_cons_zero, List.set_cons_succ, i64_w, i32_w]
    rfl
  refine pure_ (i := 14) (N := some 47) (v := ?_) (a' := ?_) #[true, true, true, true, false, true, true, true, true, true, false, true, false, true, true, false, false, false, false] rfl rfl (by kernel_rfl) (fun _ _ _ h => h) (Or.inl ⟨by rfl, ?_⟩) ?_ ?_
  rotate_left
  · intro w'
    go_simp
    with_reducible rfl
  rotate_left
  · simp only [Act.put, List.setIfInBounds_toArray, List.set_cons_zero, List.set_cons_succ, i64_w, i32_w]
    rfl
  refine pure_ (i := 15) (N := some 48) (v := ?_) (a' := ?_) #[true, true, true, true, false, true, true, true, true, true, false, true, false, true, true, true, false, false, false] rfl rfl (by kernel_rfl) (fun _ _ _ h => h) (Or.inl ⟨by rfl, ?_⟩) ?_ ?_
  rotate_left
  · intro w'
    go_simp
    with_reducible rfl
  rotate_left
  · simp only [Act.put, List.setIfInBounds_toArray, List.set_cons_zero, List.set_cons_succ, i64_w, i32_w]
    rfl
  refine take_ (i := 4) (N := some 37) (v := ?_) (a' := ?_) #[true, true, true, true, true, true, true, true, true, true, false, true, false, true, true, true, false, false, false] rfl rfl (by kernel_rfl) (fun _ _ _ h => h) (Or.inl ⟨by rfl, ?_⟩) hHeld ?_ ?_
  rotate_left
  · intro w' s0
    go_simp
    with_reducible rfl
  rotate_left
  · simp only [Act.put, List.setIfInBounds_toArray, List.set_cons_zero, List.set_cons_succ, i64_w, i32_w]
    rfl
  refine take_ (i := 10) (N := some 43) (v := ?_) (a' := ?_) #[true, true, true, true, true, true, true, true, true, true, true, true, false, true, true, true, false, false, false] rfl rfl (by kernel_rfl) (fun _ _ _ h => h) (Or.inl ⟨by rfl, ?_⟩) hHeld ?_ ?_
  rotate_left
  · intro w' s0
    go_simp
    with_reducible rfl
  rotate_left
  · simp only [Act.put, List.setIfInBounds_toArray, List.set_cons_zero, List.set_cons_succ, i64_w, i32_w]
    rfl
  refine one_ (i := 12) (N := some 45) #[true, true, true, true, true, true, true, true, true, true, true, true, true, true, true, true, false, false, false] rfl rfl (by kernel_rfl) (by decide) (fun K hK => ?_)
  refine goes_ Tryd.func85 (by kernel_rfl) rfl #[.pointer (some ⟨ga, 0, none⟩), .string p, .int .i64 (d : Int)] (by rfl) rfl rfl (by simp only [List.map_toArray, List.map_cons, List.map_nil]; rfl) ?_
  with_reducible refine (HH2.out).mono ?_
  rintro e' w2 ⟨v2, rfl, t2, rfl⟩
  refine ⟨_, rfl, ?_⟩
  refine hK.out _ _ (hHeld) (fun hHeld => ?_)
  clear hK K
  refine norm_ (a' := ?_) ?_ ?_
  rotate_left
  · show Act.put _ (some 45) _ = _
    simp only [Act.put, List.setIfInBounds_toArray, List.set_cons_zero, List.set_cons_succ, i64_w, i32_w]
    rfl
  refine one_ (i := 16) (N := some 49) #[true, true, true, true, true, true, true, true, true, true, true, true, true, true, true, true, true, false, false] rfl rfl (by kernel_rfl) (by decide) (fun K hK => ?_)
  have RC2 := hid (RC.out _ _ T2.out t2 V2.out)
  refine goes_ Tryd.func75 (by kernel_rfl) rfl #[v2, .pointer (some ⟨gb, 0, none⟩), .int .i64 ((d : Int) + 1)] (by rfl) rfl rfl (by simp only [List.map_toArray, List.map_cons, List.map_nil]; rfl) ?_
  with_reducible refine (RC2.out).mono ?_
  rintro e' w3 ⟨v3, rfl, t3, b3⟩
  refine ⟨_, rfl, ?_⟩
  have B3 := below_then B00.out b3
  refine hK.out _ _ ((below_cell b3 hHeld)) (fun hHeld => ?_)
  clear hK K
  refine norm_ (a' := ?_) ?_ ?_
  rotate_left
  · show Act.put _ (some 49) _ = _
    simp only [Act.put, List.setIfInBounds_toArray, List.set_cons_zero, List.set_cons_succ, i64_w, i32_w]
    rfl
  refine one_ (i := 17) (N := some 50) #[true, true, true, true, true, true, true, true, true, true, true, true, true, true, true, true, true, true, false] rfl rfl (by kernel_rfl) (by decide) (fun K hK => ?_)
  have HW2 := hid (HW.out _ _ B3 (TT.out.below B3) t3)
  refine goes_ Tryd.func84 (by kernel_rfl) rfl #[.pointer (some ⟨ga, 0, none⟩), .string p, .int .i64 (d : Int), v3] (by rfl) rfl rfl (by simp only [List.map_toArray, List.map_cons, List.map_nil]; rfl) ?_
  with_reducible refine (HW2.out).mono ?_
  rintro e' w4 ⟨v4, rfl, t4, b4⟩
  refine ⟨_, rfl, ?_⟩
  have B4 := below_then B3 b4
  refine hK.out _ _ ((below_cell b4 hHeld)) (fun hHeld => ?_)
  clear hK K
  refine norm_ (a' := ?_) ?_ ?_
  rotate_left
  · show Act.put _ (some 50) _ = _
    simp only [Act.put, List.setIfInBounds_toArray, List.set_cons_zero, List.set_cons_succ, i64_w, i32_w]
    rfl
  refine pure_ (i := 18) (N := some 6) (v := ?_) (a' := ?_) #[true, true, true, true, true, true, true, true, true, true, true, true, true, true, true, true, true, true, true] rfl rfl (by kernel_rfl) (fun _ _ _ h => h) (Or.inl ⟨by rfl, ?_⟩) ?_ ?_
  rotate_left
  · intro w'
    go_simp
    with_reducible rfl
  rotate_left
  · simp only [Act.put, List.setIfInBounds_toArray, List.set_cons_zero, List.set_cons_succ, i64_w, i32_w]
    rfl
  refine done_ (by kernel_rfl) ?_
  have FIN := hid (And.intro t4 B4)
  clear t2 t3 b3 b4 t4 B3 B4
  go_wp2
  go_ret
  exact ⟨v4, rfl, FIN.out.1, FIN.out.2⟩
end Go.Proofs.YtcfjciencggflaaDoor

/- The walks of put and del, by the depth; of Put, Del. -/
namespace Go.Proofs.YtcfjciencggflaaDoor
open Go.RowKit PrintLast

theorem putI_same {y x : Itm} (h : y.key = x.key) : putI [y] x = [x] := by unfold putI; rw [List.filter_cons, if_neg (by simp [h])]; rfl
theorem putI_other {y x : Itm} (h : y.key ≠ x.key) : putI [y] x = [x, y] := by unfold putI; rw [List.filter_cons, if_pos (by simp [h])]; rfl
theorem putI_length (l : List Itm) (x : Itm) : (putI l x).length ≤ l.length + 1 := by
  unfold putI
  rw [List.length_cons]
  have := List.length_filter_le (fun y : Itm => decide (y.key ≠ x.key)) l
  omega
theorem put_one {w : World} (hT : Table w) {v vx : Value} {y x : Itm} {f d : Nat} (hv : Tree w v (treeF f [y])) (hx : Tree w vx (.leaf x)) (hd : d + f = 256) (hp : Good f (putI [y] x)) (ht : Tells [y] x.key) :
    Calls Tryd.prog 75 #[v, vx, .int .i64 (d : Int)] w (Grew w (treeF f (putI [y] x))) := by
  rw [treeF_one] at hv
  have hs : [x, y].Perm [y, x] := List.Perm.swap y x []
  refine (put_leaf hT hv hx hd (fun h => ?_)).mono fun e w' h => h.cast ?_
  · have hk : y.key ≠ x.key := fun e => h (by rw [e])
    rw [putI_other hk] at hp
    exact hp.perm hs
  · by_cases h : pathK y.key = pathK x.key
    · rw [if_pos h, putI_same (ht y (by simp) h), treeF_one]
    · have hk : y.key ≠ x.key := fun e => h (by rw [e])
      rw [putI_other hk] at hp ⊢
      rw [if_neg h, treeF_perm f hp (by omega) hs]
theorem put_none {w : World} {v vx : Value} {x : Itm} {f : Nat} {d : Int} (hv : Tree w v (treeF f [])) (hx : Tree w vx (.leaf x)) :
    Calls Tryd.prog 75 #[v, vx, .int .i64 d] w (Grew w (treeF f (putI [] x))) := by
  rw [treeF_nil] at hv
  cases hv
  refine put_nil.mono fun e w' ⟨h1, h2⟩ => ⟨vx, h1, ?_, h2⟩
  show Tree w' vx (treeF f [x])
  rw [treeF_one]
  exact Tree.below hx h2
theorem put_walk (f : Nat) : ∀ (w : World) (v vx : Value) (l : List Itm) (x : Itm) (d : Nat), Table w → Tree w v (treeF f l) → Tree w vx (.leaf x) → Good f l → Good f (putI l x) → Tells l x.key → d + f = 256 → l.length ≤ 1000000 →
    Calls Tryd.prog 75 #[v, vx, .int .i64 (d : Int)] w (Grew w (treeF f (putI l x))) := by
  induction f with
  | zero =>
    intro w v vx l x d hT hv hx hg hp ht hd _
    match l, hg.few with
    | [], _ => exact put_none hv hx
    | [y], _ => exact put_one hT hv hx hd hp ht
  | succ f ih =>
    intro w v vx l x d hT hv hx hg hp ht hd hl
    by_cases h2 : 2 ≤ l.length
    · have hdf : 255 - f = d := by omega
      rw [treeF_big f l h2, hdf] at hv
      have J := join_tree hp (by omega)
      have g0 := hg.half 0 (by omega)
      have g1 := hg.half 1 (by omega)
      have p0 := hp.half 0 (by omega)
      have p1 := hp.half 1 (by omega)
      rw [hdf] at J g0 g1 p0 p1
      have L0 := halfI_length_le l d 0
      have L1 := halfI_length_le l d 1
      have F0 := fine_tree (show f ≤ 256 by omega) g0 (by omega)
      have F1 := fine_tree (show f ≤ 256 by omega) g1 (by omega)
      rcases btK_two x.key d with hb | hb
      · have e1 : halfI (putI l x) d 1 = halfI l d 1 := half_put_other (by rw [hb]; decide)
        rw [half_put_same hb] at J p0
        rw [e1] at J
        have FX := fine_tree (show f ≤ 256 by omega) p0 (by have := putI_length (halfI l d 0) x; omega)
        refine (put_node hT hv hx hd F0 F1 FX (fun w' v' h1 h2 h3 => ?_)).mono fun e w' h => h.cast ?_
        · rw [if_pos hb] at h2
          exact ih w' v' vx _ x (d + 1) h1 h2 h3 g0 p0 (fun y hy => ht y (half_mem.1 hy).1) (by omega) (by omega)
        · rw [if_pos hb]; exact J
      · have e0 : halfI (putI l x) d 0 = halfI l d 0 := half_put_other (by rw [hb]; decide)
        rw [half_put_same hb] at J p1
        rw [e0] at J
        have FX := fine_tree (show f ≤ 256 by omega) p1 (by have := putI_length (halfI l d 1) x; omega)
        refine (put_node hT hv hx hd F0 F1 FX (fun w' v' h1 h2 h3 => ?_)).mono fun e w' h => h.cast ?_
        · rw [if_neg (by rw [hb]; decide)] at h2
          exact ih w' v' vx _ x (d + 1) h1 h2 h3 g1 p1 (fun y hy => ht y (half_mem.1 hy).1) (by omega) (by omega)
        · rw [if_neg (by rw [hb]; decide)]; exact J
    · match l, h2 with
      | [], _ => exact put_none hv hx
      | [y], _ => exact put_one hT hv hx hd hp ht
      | x :: y :: l, h2 => simp at h2

set_option maxHeartbeats 3200000 in
theorem Put_any {w : World} (hT : Table w) {v : Value} {l : List Itm} {key : ByteArray} {A : Option Addr} {c n : Nat} {row : List UInt8} (hv : Tree w v (treeF 256 l)) (hk : key.size ≤ 1000000) (hn : row.length = n) (hr : n ≤ 1000000) (hA : BSA w A c row) (hg : Good 256 l) (hp : Good 256 (putI l ⟨key, row⟩)) (ht : Tells l key) (hl : l.length ≤ 1000000) :
    Calls Tryd.prog 57 #[v, .string key, .slice A n c] w (Grew w (treeF 256 (putI l ⟨key, row⟩))) := by
  have H := hid (leaf_new hT hk hn hr hA)
  have TT := hid hT
  have VV := hid hv
  have GG := hid (And.intro hg (And.intro hp ht))
  clear hT hv hA hn hg hp ht
  go_enter Tryd.func57, Tryd.ntmps57
  go_wp2_with fail
  refine H.out.mono ?_
  rintro e w1 ⟨v1, rfl, t1, b1⟩
  have P0 : Calls Tryd.prog 75 #[v, v1, .int .i64 0] w1 (Grew w1 (treeF 256 (putI l ⟨key, row⟩))) := put_walk 256 w1 v v1 l ⟨key, row⟩ 0 (TT.out.below b1) (Tree.below VV.out b1) t1 GG.out.1 GG.out.2.1 GG.out.2.2 (by omega) hl
  have P := hid P0
  clear P0 t1 H
  go_wp2_with fail
  refine P.out.mono ?_
  rintro e w2 ⟨v2, rfl, t2, b2⟩
  have B2 := below_then b1 b2
  go_wp2
  go_ret
  exact ⟨v2, rfl, t2, B2⟩

/-! ### del -/
set_option maxHeartbeats 3200000 in
theorem del_nil {w : World} {k p : ByteArray} {d : Int} : Calls Tryd.prog 74 #[.pointer none, .string k, .string p, .int .i64 d] w (Grew w .nil) := by
  go_enter Tryd.func74, Tryd.ntmps74
  go_wp2
  go_ret
  exact ⟨_, rfl, Tree.nil w, Below.refl _ _⟩
set_option maxHeartbeats 3200000 in
theorem del_leaf {w : World} {v : Value} {y : Itm} {k p : ByteArray} {d : Int} (hv : Tree w v (.leaf y)) :
    Calls Tryd.prog 74 #[v, .string k, .string p, .int .i64 d] w (Grew w (if y.key = k then .nil else .leaf y)) := by
  have H := hid (single_leaf hv)
  have VV := hid hv
  obtain ⟨ga, Ba, da, rfl, _, h3a, _⟩ := hv
  obtain ⟨-, -, -, ca, -, -, -⟩ := seven h3a
  have B0 := hid (Below.refl w.heap.size w)
  by_cases h : y.key = k
  · have ht : (y.key.toList == k.toList) = true := by rw [h]; simp
    rw [if_pos h]
    obtain ⟨yk, hyk⟩ : ∃ yk, yk = y.key := ⟨_, rfl⟩
    rw [← hyk] at ca ht
    clear h3a h hyk
    go_enter Tryd.func74, Tryd.ntmps74
    go_wp2_with fail
    refine H.out.mono ?_
    rintro e w1 ⟨rfl, rfl⟩
    go_wp2
    go_ret
    exact ⟨_, rfl, Tree.nil w, B0.out⟩
  · have ht : (y.key.toList == k.toList) = false := by rw [str_beq]; simp [h]
    rw [if_neg h]
    obtain ⟨yk, hyk⟩ : ∃ yk, yk = y.key := ⟨_, rfl⟩
    rw [← hyk] at ca ht
    clear h3a h hyk
    go_enter Tryd.func74, Tryd.ntmps74
    go_wp2_with fail
    refine H.out.mono ?_
    rintro e w1 ⟨rfl, rfl⟩
    go_wp2_with fail
    refine H.out.mono ?_
    rintro e w1 ⟨rfl, rfl⟩
    go_wp2
    go_ret
    exact ⟨_, rfl, VV.out, B0.out⟩
set_option maxRecDepth 100000 in
set_option maxHeartbeats 6400000 in
theorem del_node {w : World} (hT : Table w) {v : Value} {l r t' : Tr} {k : ByteArray} {f d : Nat} (hv : Tree w v (.node l r)) (hd : d + (f + 1) = 256) (fl : Fine l) (fr : Fine r) (ft : Fine t')
    (rec_ : ∀ (w' : World) (v' : Value), Table w' → Tree w' v' (if btK k d = 0 then l else r) → Calls Tryd.prog 74 #[v', .string k, .string (pathS k), .int .i64 ((d + 1 : Nat) : Int)] w' (Grew w' t')) :
    Calls Tryd.prog 74 #[v, .string k, .string (pathS k), .int .i64 (d : Int)] w (Grew w (if btK k d = 0 then joinT t' r else joinT l t')) := by
  have HS := hid (single_node hv)
  have HH := hid (half_any (k := k) (d := d) (by omega) hv)
  have TT := hid hT
  have RC : Hid (∀ (w' : World) (v' : Value), Table w' → Tree w' v' (if btK k d = 0 then l else r) → Calls Tryd.prog 74 #[v', .string k, .string (pathS k), .int .i64 ((d : Int) + 1)] w' (Grew w' t')) := hid (by
    intro w' v' h1 h2
    have := rec_ _ _ h1 h2
    rwa [show ((d + 1 : Nat) : Int) = (d : Int) + 1 by omega] at this)
  have HW : Hid (∀ w' v', Below w.heap.size w w' → Table w' → Tree w' v' t' → Calls Tryd.prog 84 #[v, .string (pathS k), .int .i64 (d : Int), v'] w' (Grew w' (if btK k d = 0 then joinT t' r else joinT l t'))) := hid (fun w' v' h h1 h2 => with_any h1 (by omega) (Tree.below hv h) h2 fl fr ft)
  obtain ⟨ga, va, vb, rfl, _⟩ := hv
  have hdb : d ≤ 256 := by omega
  generalize pathS k = p at *
  clear hT rec_ fl fr ft hd
  generalize (if btK k d = 0 then joinT t' r else joinT l t') = RR at *
  generalize (if btK k d = 0 then l else r) = HF at *
  go_enter Tryd.func74, Tryd.ntmps74
  go_wp2_with fail
  refine HS.out.mono ?_
  rintro e w1 ⟨rfl, rfl⟩
  go_wp2_with fail
  refine HS.out.mono ?_
  rintro e w1 ⟨rfl, rfl⟩
  go_wp2_with fail
  refine HH.out.mono ?_
  rintro e w1 ⟨v2, rfl, t2, rfl⟩
  have RC2 := hid (RC.out _ _ TT.out t2)
  clear t2 HS HH
  go_wp2_with fail
  refine RC2.out.mono ?_
  rintro e w3 ⟨v3, rfl, t3, b3⟩
  have HW2 := hid (HW.out _ _ b3 (TT.out.below b3) t3)
  clear t3 RC2
  go_wp2_with fail
  refine HW2.out.mono ?_
  rintro e w4 ⟨v4, rfl, t4, b4⟩
  have B4 := below_then b3 b4
  clear HW2 b3 b4
  go_wp2
  go_ret
  exact ⟨v4, rfl, t4, B4⟩
theorem del_one {w : World} {v : Value} {y : Itm} {k p : ByteArray} {f : Nat} {d : Int} (hv : Tree w v (treeF f [y])) :
    Calls Tryd.prog 74 #[v, .string k, .string p, .int .i64 d] w (Grew w (treeF f (delI [y] k))) := by
  rw [treeF_one] at hv
  refine (del_leaf hv).mono fun e w' h => h.cast ?_
  unfold delI
  by_cases h : y.key = k
  · rw [if_pos h, List.filter_cons, if_neg (by simp [h]), List.filter_nil, treeF_nil]
  · rw [if_neg h, List.filter_cons, if_pos (by simp [h]), List.filter_nil, treeF_one]
theorem del_none {w : World} {v : Value} {k p : ByteArray} {f : Nat} {d : Int} (hv : Tree w v (treeF f [])) :
    Calls Tryd.prog 74 #[v, .string k, .string p, .int .i64 d] w (Grew w (treeF f (delI [] k))) := by
  rw [treeF_nil] at hv
  cases hv
  exact del_nil.mono fun e w' h => h.cast (treeF_nil f).symm
theorem delI_length (l : List Itm) (k : ByteArray) : (delI l k).length ≤ l.length := List.length_filter_le _ _
theorem del_walk (f : Nat) : ∀ (w : World) (v : Value) (l : List Itm) (k : ByteArray) (d : Nat), Table w → Tree w v (treeF f l) → Good f l → d + f = 256 → l.length ≤ 1000000 →
    Calls Tryd.prog 74 #[v, .string k, .string (pathS k), .int .i64 (d : Int)] w (Grew w (treeF f (delI l k))) := by
  induction f with
  | zero =>
    intro w v l k d hT hv hg hd _
    match l, hg.few with
    | [], _ => exact del_none hv
    | [y], _ => exact del_one hv
  | succ f ih =>
    intro w v l k d hT hv hg hd hl
    by_cases h2 : 2 ≤ l.length
    · have hdf : 255 - f = d := by omega
      rw [treeF_big f l h2, hdf] at hv
      have hp : Good (f + 1) (delI l k) := hg.sub List.filter_sublist
      have J := join_tree hp (by omega)
      have g0 := hg.half 0 (by omega)
      have g1 := hg.half 1 (by omega)
      have p0 := hp.half 0 (by omega)
      have p1 := hp.half 1 (by omega)
      rw [hdf, half_del, half_del] at J
      rw [hdf] at g0 g1
      rw [hdf, half_del] at p0 p1
      have L0 := halfI_length_le l d 0
      have L1 := halfI_length_le l d 1
      have F0 := fine_tree (show f ≤ 256 by omega) g0 (by omega)
      have F1 := fine_tree (show f ≤ 256 by omega) g1 (by omega)
      rcases btK_two k d with hb | hb
      · have e1 : delI (halfI l d 1) k = halfI l d 1 := del_other (by rw [hb]; decide)
        rw [e1] at J
        have FX := fine_tree (show f ≤ 256 by omega) p0 (by have := delI_length (halfI l d 0) k; omega)
        refine (del_node hT hv hd F0 F1 FX (fun w' v' h1 h2 => ?_)).mono fun e w' h => h.cast ?_
        · rw [if_pos hb] at h2
          exact ih w' v' _ k (d + 1) h1 h2 g0 (by omega) (by omega)
        · rw [if_pos hb]; exact J
      · have e0 : delI (halfI l d 0) k = halfI l d 0 := del_other (by rw [hb]; decide)
        rw [e0] at J
        have FX := fine_tree (show f ≤ 256 by omega) p1 (by have := delI_length (halfI l d 1) k; omega)
        refine (del_node hT hv hd F0 F1 FX (fun w' v' h1 h2 => ?_)).mono fun e w' h => h.cast ?_
        · rw [if_neg (by rw [hb]; decide)] at h2
          exact ih w' v' _ k (d + 1) h1 h2 g1 (by omega) (by omega)
        · rw [if_neg (by rw [hb]; decide)]; exact J
    · match l, h2 with
      | [], _ => exact del_none hv
      | [y], _ => exact del_one hv
      | x :: y :: l, h2 => simp at h2

set_option maxHeartbeats 3200000 in
theorem Del_any {w : World} (hT : Table w) {v : Value} {l : List Itm} {key : ByteArray} (hv : Tree w v (treeF 256 l)) (hk : key.size ≤ 1000000) (hg : Good 256 l) (hl : l.length ≤ 1000000) :
    Calls Tryd.prog 55 #[v, .string key] w (Grew w (treeF 256 (delI l key))) := by
  have ks : key.size ≤ maxLen := by unfold maxLen; omega
  have TT := hid hT
  have VV := hid hv
  have GG := hid hg
  clear hT hv hg
  go_enter Tryd.func55, Tryd.ntmps55
  go_wp2_with (refine wpList_conv rfl (.tmp 7) rfl key rfl ks ?_)
  intro g1 c1 w1 _ q1 b1
  replace TT := hid (TT.out.below b1)
  replace VV := hid (Tree.below VV.out b1)
  have BB := hid b1
  have H := hid (sumK TT.out hk q1)
  clear b1 q1 ks
  go_wp2_with fail
  refine H.out.mono ?_
  rintro e w2 ⟨rfl, b2⟩
  replace TT := hid (TT.out.below b2)
  replace VV := hid (Tree.below VV.out b2)
  replace BB := hid (below_then BB.out b2)
  have P0 : Calls Tryd.prog 74 #[v, .string key, .string (pathS key), .int .i64 0] w2 (Grew w2 (treeF 256 (delI l key))) := del_walk 256 w2 v l key 0 TT.out VV.out GG.out (by omega) hl
  have P := hid P0
  clear P0 b2 H
  go_wp2_with fail
  refine P.out.mono ?_
  rintro e w3 ⟨v3, rfl, t3, b3⟩
  have B3 := below_then BB.out b3
  go_wp2
  go_ret
  exact ⟨v3, rfl, t3, B3⟩
end Go.Proofs.YtcfjciencggflaaDoor

/- The walk of the program's Build. -/
namespace Go.Proofs.YtcfjciencggflaaDoor
open Go.RowKit PrintLast

def Tr.Small : Tr → Prop
  | .nil => True
  | .leaf x => x.row.length ≤ 1000000
  | .node l r => l.Small ∧ r.Small
theorem treeF_small (f : Nat) : ∀ l : List Itm, (∀ x ∈ l, x.row.length ≤ 1000000) → (treeF f l).Small := by
  induction f with
  | zero =>
    intro l h
    match l, h with
    | [], _ => trivial
    | [x], h => exact h x (by simp)
    | x :: y :: l, h => exact h x (by simp)
  | succ f ih =>
    intro l h
    by_cases h2 : 2 ≤ l.length
    · rw [treeF_big f l h2]
      exact ⟨ih _ (fun x hx => h x (half_mem.1 hx).1), ih _ (fun x hx => h x (half_mem.1 hx).1)⟩
    · match l, h2, h with
      | [], _, _ => trivial
      | [x], _, h => exact h x (by simp)
      | x :: y :: l, h2, _ => simp at h2
/-- The sides of the way to a key, and the way's end. -/
def walkT : Tr → Nat → ByteArray → List ByteArray × Tr
  | .nil, _, _ => ([], .nil)
  | .leaf y, _, _ => ([], .leaf y)
  | .node l r, d, k => if btK k d = 1 then (digS l :: (walkT r (d + 1) k).1, (walkT r (d + 1) k).2) else (digS r :: (walkT l (d + 1) k).1, (walkT l (d + 1) k).2)
/-- The proof of a key. -/
def endT (s : List ByteArray) (t : Tr) (key : ByteArray) : Prf :=
  match t with
  | .leaf y => if y.key = key then ⟨s, 1, ⟨#[]⟩, y.row⟩ else ⟨s, 2, y.key, y.row⟩
  | _ => ⟨s, 0, ⟨#[]⟩, []⟩
def buildT (t : Tr) (key : ByteArray) : Prf := endT (walkT t 0 key).1 (walkT t 0 key).2 key
def Built (w : World) (p : Prf) (x : Ending) (w' : World) : Prop := ∃ A c B d, x = .returned (.agg (prfV A c B d p)) ∧ Txt w' w.heap.size A c p.side ∧ Row w' w.heap.size B d p.row ∧ Below w.heap.size w w'
theorem built_end {w X : World} {S k m c d : Nat} {kk : Int} {R B : Option Addr} {key : ByteArray} {P : Prf} (hS : S = w.heap.size) (h0 : X.heap[S]? = some (.cells #[.slice none 0 0, .int .u8 0, .string ⟨#[]⟩, .slice none 0 0] 52 (0, 0))) (hL : Txt X S R c P.side) (hr : Row X S B d P.row) (hk : P.side.length = k) (hm : P.row.length = m) (hkd : (P.kind.toNat : Int) = kk) (hky : P.key = key) (hX : Below S w X) :
    Built w P (.returned (.agg #[.slice R k c, .int .u8 kk, .string key, .slice B m d])) ((((X.setCell ⟨S, 0, none⟩ (.slice R k c)).setCell ⟨S, 1, none⟩ (.int .u8 kk)).setCell ⟨S, 2, none⟩ (.string key)).setCell ⟨S, 3, none⟩ (.slice B m d)) := by
  subst hk hm hkd hky
  refine ⟨R, c, B, d, rfl, ?_, ?_, ?_⟩
  · rw [← hS]; exact own_far hL (set4_keeps X S _ _ _ _) h0 (by decide)
  · rw [← hS]; exact own_far hr (set4_keeps X S _ _ _ _) h0 (by decide)
  · rw [← hS]; exact set4_below hX (Nat.le_refl _) _ _ _ _

set_option maxHeartbeats 1600000 in
/-- The halves of a tree that lies below S, in a later world. -/
theorem halves_at {w wr : World} {S : Nat} {v : Value} {l r : Tr} (h : TreeAt w S v (.node l r)) (hb : Below S w wr) :
    Calls Tryd.prog 61 #[v] wr fun e w' => ∃ vl vr, e = .returned (.tuple #[vl, vr, .bool true]) ∧ Hid (TreeAt w S vl l ∧ TreeAt w S vr r) ∧ Below wr.heap.size wr w' := by
  have H := hid (single_node (h.move hb))
  obtain ⟨g, vl, vr, rfl, hg, h3, h4, h5⟩ := h
  have h3' := (hb.block g hg).trans h3
  obtain ⟨c0, c1, c2, c3, c4, c5, c6⟩ := seven h3'
  have HL := hid (And.intro h4 h5)
  clear h3 h3' c2 c3 c4 c5 c6 h4 h5 hb
  go_enter Tryd.func61, Tryd.ntmps61
  go_wp2_with fail
  refine H.out.mono ?_
  rintro e w1 ⟨rfl, rfl⟩
  clear H
  go_wp2
  refine start_ (n := 11) (S := fun w' => w'.cell? ⟨g, 0, none⟩ = some vl ∧ w'.cell? ⟨g, 1, none⟩ = some vr) (ds := []) #[false, false, false, false, false, false, false, false, false, false, false] (by kernel_rfl) rfl rfl ⟨c0, c1⟩ (fun hHeld => ?_)
  refine pure_ (i := 0) (N := some 11) (v := ?_) (a' := ?_) #[true, false, false, false, false, false, false, false, false, false, false] rfl rfl (by kernel_rfl) (fun _ _ _ h => h) (Or.inl ⟨by rfl, ?_⟩) ?_ ?_
  rotate_left
  · intro w'
    go_simp
    with_reducible rfl
  rotate_left
  · simp only [Act.put, List.setIfInBounds_toArray, List.set_cons_zero, List.set_cons_succ, i64_w, i32_w]
    rfl
  refine pure_ (i := 1) (N := some 12) (v := ?_) (a' := ?_) #[true, true, false, false, false, false, false, false, false, false, false] rfl rfl (by kernel_rfl) (fun _ _ _ h => h) (Or.inl ⟨by rfl, ?_⟩) ?_ ?_
  rotate_left
  · intro w'
    go_simp
    with_reducible rfl
  rotate_left
  · simp only [Act.put, List.setIfInBounds_toArray, List.set_cons_zero, List.set_cons_succ, i64_w, i32_w]
    rfl
  refine pure_ (i := 2) (N := some 13) (v := ?_) (a' := ?_) #[true, true, true, false, false, false, false, false, false, false, false] rfl rfl (by kernel_rfl) (fun _ _ _ h => h) (Or.inl ⟨by rfl, ?_⟩) ?_ ?_
  rotate_left
  · intro w'
    go_simp
    with_reducible rfl
  rotate_left
  · simp only [Act.put, List.setIfInBounds_toArray, List.set_cons_zero, List.set_cons_succ, i64_w, i32_w]
    rfl
  refine pure_ (i := 4) (N := some 15) (v := ?_) (a' := ?_) #[true, true, true, false, true, false, false, false, false, false, false] rfl rfl (by kernel_rfl) (fun _ _ _ h => h) (Or.inl ⟨by rfl, ?_⟩) ?_ ?_
  rotate_left
  · intro w'
    go_simp
    with_reducible rfl
  rotate_left
  · simp only [Act.put, List.setIfInBounds_toArray, List.set_cons_zero, List.set_cons_succ, i64_w, i32_w]
    rfl
  refine pure_ (i := 5) (N := some 16) (v := ?_) (a' := ?_) #[true, true, true, false, true, true, false, false, false, false, false] rfl rfl (by kernel_rfl) (fun _ _ _ h => h) (Or.inl ⟨by rfl, ?_⟩) ?_ ?_
  rotate_left
  · intro w'
    go_simp
    with_reducible rfl
  rotate_left
  · simp only [Act.put, List.setIfInBounds_toArray, List.set_cons_zero, List.set_cons_succ, i64_w, i32_w]
    rfl
  refine pure_ (i := 6) (N := some 17) (v := ?_) (a' := ?_) #[true, true, true, false, true, true, true, false, false, false, false] rfl rfl (by kernel_rfl) (fun _ _ _ h => h) (Or.inl ⟨by rfl, ?_⟩) ?_ ?_
  rotate_left
  · intro w'
    go_simp
    with_reducible rfl
  rotate_left
  · simp only [Act.put, List.setIfInBounds_toArray, List.set_cons_zero, List.set_cons_succ, i64_w, i32_w]
    rfl
  refine take_ (i := 3) (N := some 14) (v := ?_) (a' := ?_) #[true, true, true, true, true, true, true, false, false, false, false] rfl rfl (by kernel_rfl) (fun _ _ _ h => h) (Or.inl ⟨by rfl, ?_⟩) hHeld ?_ ?_
  rotate_left
  · rintro w' ⟨s0, s1⟩
    go_simp
    with_reducible rfl
  rotate_left
  · simp only [Act.put, List.setIfInBounds_toArray, List.set_cons_zero, List.set_cons_succ, i64_w, i32_w]
    rfl
  refine pure_ (i := 8) (N := some 2) (v := ?_) (a' := ?_) #[true, true, true, true, true, true, true, false, true, false, false] rfl rfl (by kernel_rfl) (fun _ _ _ h => h) (Or.inl ⟨by rfl, ?_⟩) ?_ ?_
  rotate_left
  · intro w'
    go_simp
    with_reducible rfl
  rotate_left
  · simp only [Act.put, List.setIfInBounds_toArray, List.set_cons_zero, List.set_cons_succ, i64_w, i32_w]
    rfl
  refine take_ (i := 7) (N := some 18) (v := ?_) (a' := ?_) #[true, true, true, true, true, true, true, true, true, false, false] rfl rfl (by kernel_rfl) (fun _ _ _ h => h) (Or.inl ⟨by rfl, ?_⟩) hHeld ?_ ?_
  rotate_left
  · rintro w' ⟨s0, s1⟩
    go_simp
    with_reducible rfl
  rotate_left
  · simp only [Act.put, List.setIfInBounds_toArray, List.set_cons_zero, List.set_cons_succ, i64_w, i32_w]
    rfl
  refine pure_ (i := 9) (N := some 3) (v := ?_) (a' := ?_) #[true, true, true, true, true, true, true, true, true, true, false] rfl rfl (by kernel_rfl) (fun _ _ _ h => h) (Or.inl ⟨by rfl, ?_⟩) ?_ ?_
  rotate_left
  · intro w'
    go_simp
    with_reducible rfl
  rotate_left
  · simp only [Act.put, List.setIfInBounds_toArray, List.set_cons_zero, List.set_cons_succ, i64_w, i32_w]
    rfl
  refine pure_ (i := 10) (N := some 4) (v := ?_) (a' := ?_) #[true, true, true, true, true, true, true, true, true, true, true] rfl rfl (by kernel_rfl) (fun _ _ _ h => h) (Or.inl ⟨by rfl, ?_⟩) ?_ ?_
  rotate_left
  · intro w'
    go_simp
    with_reducible rfl
  rotate_left
  · simp only [Act.put, List.setIfInBounds_toArray, List.set_cons_zero, List.set_cons_succ, i64_w, i32_w]
    rfl
  refine done_ (by kernel_rfl) ?_
  go_wp2
  go_ret3
  exact ⟨vl, vr, rfl, HL, (Below.refl _ _).drew⟩

set_option maxRecDepth 100000 in
set_option maxHeartbeats 6400000 in
theorem build_tree {w : World} (hT : Table w) {v : Value} {T : Tr} {key : ByteArray} (hv : Tree w v T) (hk : key.size ≤ 1000000) (hh : T.ht ≤ 256) (hs : T.Small) :
    Calls Tryd.prog 39 #[v, .string key] w (Built w (buildT T key)) := by
  have ks : key.size ≤ maxLen := by unfold maxLen; omega
  obtain ⟨g0, g1, al⟩ := alloc2 w (.cells #[.slice none 0 0, .int .u8 0, .string ⟨#[]⟩, .slice none 0 0] 52) (.cells #[.slice none 0 0, .int .u8 0, .string ⟨#[]⟩, .slice none 0 0] 52)
  obtain ⟨S, hS⟩ : ∃ S, S = w.heap.size := ⟨_, rfl⟩
  have tv : TreeAt w S v T := by rw [hS]; exact hv
  rw [← hS] at g0 g1 al
  have HS := hid hS
  have TT0 := hid hT
  have TV := hid tv
  have HH := hid (And.intro hh hs)
  clear hS hT hv tv hh hs
  go_enter Tryd.func39, Tryd.ntmps39
  go_upto_region 2 with fail
  rw [← HS.out]
  generalize hW : (w.alloc (.cells #[.slice none 0 0, .int .u8 0, .string ⟨#[]⟩, .slice none 0 0] 52)).alloc (.cells #[.slice none 0 0, .int .u8 0, .string ⟨#[]⟩, .slice none 0 0] 52) = W at *
  obtain ⟨b1, hb1⟩ : ∃ b, b = S + 1 := ⟨_, rfl⟩
  rw [← hb1] at g1 ⊢
  have o01 : S < b1 := by omega
  have sW : S ≤ W.heap.size := by have := lt_of_block g0; omega
  clear hW hb1
  go_wp2_with (refine wpList_conv rfl (.tmp 13) rfl key rfl ks ?_)
  intro ga ca w1 _ q1 z1
  have y0 := below_heap z1 g0
  have y1 := below_heap z1 g1
  have yB : Below S w w1 := al.trans (z1.mono sW)
  have tT := TT0.out.below (HS.out ▸ yB)
  have H := hid (sumK tT hk q1)
  clear q1 z1 g0 g1 al sW ks tT
  go_wp2_with fail
  refine H.out.mono ?_
  rintro e w2 ⟨rfl, b2⟩
  have g0 := below_heap b2 y0
  have g1 := below_heap b2 y1
  have hB : Below S w w2 := yB.trans (b2.mono (by have := lt_of_block y0; omega))
  have L0 : Txt w2 S none 0 [] := Txt.nil _ _
  have W0 : Hid (walkT T 0 key = ([] ++ (walkT T ([] : List ByteArray).length key).1, (walkT T ([] : List ByteArray).length key).2)) := hid rfl
  have P0 : Hid (T.ht ≤ T.ht ∧ ([] : List ByteArray).length + T.ht ≤ 256 ∧ T.Small ∧ TreeAt w S v T) := hid ⟨Nat.le_refl _, by simp; exact HH.out.1, HH.out.2, TV.out⟩
  have N0 : ([] : List ByteArray).length = 0 := rfl
  clear b2 y0 y1 yB H
  go_upto_block 0 with fail
  generalize hps : pathS key = ps at *
  have HP := hid hps
  clear hps
  go_cut [0] (fun vx wx => ∃ (t : Tr) (l : List ByteArray) (R : Option Addr) (c' : Nat), isNode t = false ∧ Hid (walkT T 0 key = (l, t)) ∧ Hid (t.Small ∧ TreeAt w S vx t) ∧ Txt wx S R c' l ∧ l.length ≤ 256 ∧ wx.heap[S]? = some (.cells #[.slice none 0 0, .int .u8 0, .string ⟨#[]⟩, .slice none 0 0] 52 (0, 0)) ∧ wx.heap[b1]? = some (.cells #[.slice R l.length c', .int .u8 0, .string ⟨#[]⟩, .slice none 0 0] 52 (0, 0)) ∧ Below S w wx)
  case first =>
    go_wp2
    go_loopg [0] (T.ht) (fun k vx wx => ∃ (t : Tr) (n : Nat) (l : List ByteArray) (R : Option Addr) (c' : Nat), l.length = n ∧ Hid (walkT T 0 key = (l ++ (walkT t l.length key).1, (walkT t l.length key).2)) ∧ Hid (t.ht ≤ k ∧ l.length + t.ht ≤ 256 ∧ t.Small ∧ TreeAt w S vx t) ∧ Txt wx S R c' l ∧ wx.heap[S]? = some (.cells #[.slice none 0 0, .int .u8 0, .string ⟨#[]⟩, .slice none 0 0] 52 (0, 0)) ∧ wx.heap[b1]? = some (.cells #[.slice R n c', .int .u8 0, .string ⟨#[]⟩, .slice none 0 0] 52 (0, 0)) ∧ Below S w wx)
    case atStart => exact ⟨T, 0, [], none, 0, N0, W0, P0, L0, g0, g1, hB⟩
    case round =>
      clear L0 g0 g1 hB N0 W0 P0 TV HH
      obtain ⟨t, n, l, R, c', hn, HW, HP2, hL, g0, g1, hB⟩ := hrel
      have HN := hid hn
      clear hn
      have n256 : n ≤ 256 := by have := HP2.out; have := HN.out; omega
      have sB : S ≤ wr.heap.size := by have := lt_of_block g0; omega
      have T1 := hid (HP2.out.2.2.2.move hB)
      cases t with
      | nil =>
        have e0 := HP2.out.2.2.2
        cases e0
        have HX : Hid (Calls Tryd.prog 61 #[.pointer none] wr fun e w' => e = .returned (.tuple #[.pointer none, .pointer none, .bool false]) ∧ wr = w') := hid halves_nil
        have E := hid (show walkT T 0 key = (l, .nil) by rw [HW.out]; simp [walkT])
        have E2 := hid (show Tr.nil.Small ∧ TreeAt w S (.pointer none) .nil from ⟨trivial, rfl⟩)
        have LN : l.length ≤ 256 := by have := HN.out; omega
        have g1' : wr.heap[b1]? = some (.cells #[.slice R l.length c', .int .u8 0, .string ⟨#[]⟩, .slice none 0 0] 52 (0, 0)) := by rw [HN.out]; exact g1
        have EE := hid (And.intro g0 (And.intro g1' (And.intro hL (And.intro hB LN))))
        clear g0 g1 g1' hL hB LN
        go_wp2_with fail
        refine HX.out.mono ?_
        rintro e w3 ⟨rfl, rfl⟩
        go_wp2
        go_meet
        exact ⟨.nil, l, R, c', rfl, E, E2, EE.out.2.2.1, EE.out.2.2.2.2, EE.out.1, EE.out.2.1, EE.out.2.2.2.1⟩
      | leaf x =>
        have HX := hid (halves_leaf T1.out)
        have E := hid (show walkT T 0 key = (l, .leaf x) by rw [HW.out]; simp [walkT])
        have E2 := hid (And.intro HP2.out.2.2.1 HP2.out.2.2.2)
        have LN : l.length ≤ 256 := by have := HN.out; omega
        have g1' : wr.heap[b1]? = some (.cells #[.slice R l.length c', .int .u8 0, .string ⟨#[]⟩, .slice none 0 0] 52 (0, 0)) := by rw [HN.out]; exact g1
        have EE := hid (And.intro g0 (And.intro g1' (And.intro hL (And.intro hB LN))))
        clear g0 g1 g1' hL hB LN
        go_wp2_with fail
        refine HX.out.mono ?_
        rintro e w3 ⟨rfl, rfl⟩
        go_wp2
        go_meet
        exact ⟨.leaf x, l, R, c', rfl, E, E2, EE.out.2.2.1, EE.out.2.2.2.2, EE.out.1, EE.out.2.1, EE.out.2.2.2.1⟩
      | node tl tr =>
        have HX := hid (halves_at HP2.out.2.2.2 hB)
        have v0 := cell_at g1 (i := 0) (v := .slice R n c') rfl
        have GG := hid (And.intro g0 (And.intro g1 (And.intro hB hL)))
        clear g0 g1 hL
        go_wp2_with fail
        refine HX.out.mono ?_
        rintro e w3 ⟨vl, vr, rfl, TL, b3⟩
        have yB : Below S w w3 := hB.trans (b3.mono sB)
        have y0 := below_heap b3 GG.out.1
        have y1 := below_heap b3 GG.out.2.1
        have yL : Txt w3 S R c' l := GG.out.2.2.2.below b3
        have v1 := cell_at y1 (i := 0) (v := .slice R n c') rfl
        obtain ⟨b, hb⟩ : ∃ b, b = btK key n := ⟨_, rfl⟩
        have HBit := hid (bitK_any (w := w3) (k := key) (d := n) (by omega))
        rw [← hb, HP.out] at HBit
        have BB := hid hb
        clear v0 GG b3 HX T1 hB sB
        have ys : S ≤ w3.heap.size := by have := lt_of_block y0; omega
        have hb2 : b = 0 ∨ b = 1 := by rw [hb]; exact btK_two _ _
        clear hb
        rcases hb2 with rfl | rfl
        · have tb : ((0 : Int) == 1) = false := rfl
          go_wp2_with fail
          refine HBit.out.mono ?_
          rintro e w4 ⟨rfl, rfl⟩
          go_upto_region 7 with fail
          clear v1
          have xB : Below S w w3.drew := yB.drew
          have x0 : w3.drew.heap[S]? = some (.cells #[.slice none 0 0, .int .u8 0, .string ⟨#[]⟩, .slice none 0 0] 52 (0, 0)) := y0
          have x1 : w3.drew.heap[b1]? = some (.cells #[.slice R n c', .int .u8 0, .string ⟨#[]⟩, .slice none 0 0] 52 (0, 0)) := y1
          have xL : Txt w3.drew S R c' l := yL
          have GG := hid (And.intro x0 (And.intro x1 (And.intro xB xL)))
          have dd0 : Calls Tryd.prog 62 #[vr] w3.drew fun e w' => e = .returned (.string (digS tr)) ∧ Below w3.drew.heap.size w3.drew w' := digest_any (TT0.out.below (HS.out ▸ xB)) (TL.out.2.move xB)
          have HD := hid dd0
          obtain ⟨q, hq⟩ : ∃ q, q = digS tr := ⟨_, rfl⟩
          rw [← hq] at HD
          have HQ := hid hq
          have NX : Hid (walkT T 0 key = ((l ++ [q]) ++ (walkT tl (l ++ [q]).length key).1, (walkT tl (l ++ [q]).length key).2)) := hid (by
            have h1 := HW.out
            have h2 := HN.out
            have h3 := BB.out
            rw [h1, HQ.out, List.length_append, List.length_singleton, h2]
            simp only [walkT]
            rw [← h3]
            simp)
          have NP : Hid (tl.ht ≤ tl.ht ∧ (l ++ [q]).length + tl.ht ≤ 256 ∧ tl.Small ∧ TreeAt w S vl tl) := hid (by
            have h1 := HP2.out.2.1
            have h4 := HP2.out.2.2.1
            refine ⟨Nat.le_refl _, ?_, ?_, TL.out.1⟩
            · rw [List.length_append, List.length_singleton]
              simp only [Tr.ht] at h1
              omega
            · exact h4.1)
          have MS : Hid (tl.ht < gk) := hid (by
            have h1 := HP2.out.1
            simp only [Tr.ht] at h1
            omega)
          have NN := HN.out
          have ys' : S ≤ w3.drew.heap.size := ys
          have v2 : w3.cell? ⟨b1, 0, none⟩ = some (.slice R n c') := cell_at y1 rfl
          clear dd0 hq x0 x1 xB xL HBit y0 y1 yL yB NN HP2 HW BB ys HQ
          go_wp2
          refine start_ (n := 8) (S := fun w' => w'.cell? ⟨b1, 0, none⟩ = some (.slice R n c')) (ds := [7]) #[false, false, false, false, false, false, false, false] (by kernel_rfl) rfl rfl (v2) (fun hHeld => ?_)
          refine pure_ (i := 0) (N := some 32) (v := ?_) (a' := ?_) #[true, false, false, false, false, false, false, false] rfl rfl (by kernel_rfl) (fun _ _ _ h => h) (Or.inl ⟨by rfl, ?_⟩) ?_ ?_
          rotate_left
          · intro w'
            go_simp
            with_reducible rfl
          rotate_left
          · simp only [Act.put, List.setIfInBounds_toArray, List.set_cons_zero, List.set_cons_succ, i64_w, i32_w]
            rfl
          refine pure_ (i := 2) (N := some 34) (v := ?_) (a' := ?_) #[true, false, true, false, false, false, false, false] rfl rfl (by kernel_rfl) (fun _ _ _ h => h) (Or.inl ⟨by rfl, ?_⟩) ?_ ?_
          rotate_left
          · intro w'
            go_simp
            with_reducible rfl
          rotate_left
          · simp only [Act.put, List.setIfInBounds_toArray, List.set_cons_zero, List.set_cons_succ, i64_w, i32_w]
            rfl
          refine take_ (i := 1) (N := some 33) (v := ?_) (a' := ?_) #[true, true, true, false, false, false, false, false] rfl rfl (by kernel_rfl) (fun _ _ _ h => h) (Or.inl ⟨by rfl, ?_⟩) hHeld ?_ ?_
          rotate_left
          · intro w' s0
            go_simp
            with_reducible rfl
          rotate_left
          · simp only [Act.put, List.setIfInBounds_toArray, List.set_cons_zero, List.set_cons_succ, i64_w, i32_w]
            rfl
          refine one_ (i := 3) (N := some 35) #[true, true, true, true, false, false, false, false] rfl rfl (by kernel_rfl) (by decide) (fun K hK => ?_)
          refine goes_ Tryd.func62 (by kernel_rfl) rfl #[vr] (by rfl) rfl rfl (by simp only [List.map_toArray, List.map_cons, List.map_nil]; rfl) ?_
          with_reducible refine (HD.out).mono ?_
          rintro e' w1 ⟨rfl, d1⟩
          refine ⟨_, rfl, ?_⟩
          have y0 := below_heap d1 GG.out.1
          have y1 := below_heap d1 GG.out.2.1
          have yL := GG.out.2.2.2.below d1
          have yB : Below S w w1 := GG.out.2.2.1.trans (d1.mono ys')
          have ys : S ≤ w1.heap.size := by have := lt_of_block y0; omega
          refine hK.out _ _ ((cell_at y1 rfl)) (fun hHeld => ?_)
          clear hK K
          refine norm_ (a' := ?_) ?_ ?_
          rotate_left
          · show Act.put _ (some 35) _ = _
            simp only [Act.put, List.setIfInBounds_toArray, List.set_cons_zero, List.set_cons_succ, i64_w, i32_w]
            rfl
          refine one_ (i := 4) (N := some 36) #[true, true, true, true, true, false, false, false] rfl rfl (by kernel_rfl) (by decide) (fun K hK => ?_)
          refine value_ (w1 := ?_) (v := ?_) (by rfl) rfl ?_ ?_
          rotate_left 2
          · go_simp
            constructor
            · rfl
            · rfl
          have al0 := below_alloc (Below.refl _ w1) (.cells #[.string q] 9)
          refine hK.out _ _ ((below_cell al0 hHeld)) (fun hHeld => ?_)
          clear hK K
          refine norm_ (a' := ?_) ?_ ?_
          rotate_left
          · show Act.put _ (some 36) _ = _
            simp only [Act.put, List.setIfInBounds_toArray, List.set_cons_zero, List.set_cons_succ, i64_w, i32_w]
            rfl
          refine one_ (i := 5) (N := some 37) #[true, true, true, true, true, true, false, false] rfl rfl (by kernel_rfl) (by decide) (fun K hK => ?_)
          refine step_appT rfl (.tmp 33) (.tmp 36) rfl S (Nat.le_trans ys al0.size) R c' n l rfl HN.out (yL.below al0) _ q rfl (cell_at (heap_alloc_new _ _) rfl) (by omega) ?_
          intro R2 c2 w2 m1 m2 m3
          have e1 := (yL.below al0).beside HN.out m2 (below_heap al0 y1) (by decide)
          have e0 := (yL.below al0).beside HN.out m2 (below_heap al0 y0) (by decide)
          have eX := (yL.below al0).grew HN.out m2 ((Below.refl S w1).alloc ys _) (Nat.le_trans ys al0.size)
          have d0 := cell_at e1 (i := 0) (v := .slice R n c') rfl
          have d1 := free_at e1 0
          refine hK.out _ _ (d0) (fun hHeld => ?_)
          clear hK K
          refine norm_ (a' := ?_) ?_ ?_
          rotate_left
          · show Act.put _ (some 37) _ = _
            simp only [Act.put, List.setIfInBounds_toArray, List.set_cons_zero, List.set_cons_succ, i64_w, i32_w]
            rfl
          refine pure_ (i := 6) (N := some 38) (v := ?_) (a' := ?_) #[true, true, true, true, true, true, true, false] rfl rfl (by kernel_rfl) (fun _ _ _ h => h) (Or.inl ⟨by rfl, ?_⟩) ?_ ?_
          rotate_left
          · intro w'
            go_simp
            with_reducible rfl
          rotate_left
          · simp only [Act.put, List.setIfInBounds_toArray, List.set_cons_zero, List.set_cons_succ, i64_w, i32_w]
            rfl
          refine last_ (i := 7) (N := none) #[true, true, true, true, true, true, true, true] rfl rfl (by kernel_rfl) (by decide) (fun K hK => ?_)
          refine skip_ (w1 := ?_) (by rfl) rfl ?_ ?_
          rotate_left
          · go_simp
            rfl
          refine hK.out _ _ ?_
          clear hK K
          refine done_ (by kernel_rfl) ?_
          have e1' : (w2.setCell ⟨b1, 0, none⟩ (.slice R2 (n + 1) c2)).heap[b1]? = some (.cells #[.slice R2 (n + 1) c2, .int .u8 0, .string ⟨#[]⟩, .slice none 0 0] 52 (0, 0)) := by rw [heap_set e1]; rfl
          have e0' := (keeps_one w2 b1 0 (.slice R2 (n + 1) c2)).heap e0 (by omega)
          have eL' := m1.far (keeps_one w2 b1 0 (.slice R2 (n + 1) c2)) e1 (by decide)
          have eX' := eX.setCell (p := ⟨b1, 0, none⟩) (show S ≤ b1 by omega) (.slice R2 (n + 1) c2)
          have eB' := yB.trans eX'
          have LN : (l ++ [q]).length = n + 1 := by rw [List.length_append, List.length_singleton, HN.out]
          clear m1 m2 m3 e1 e0 eX eX' d0 al0 GG v2 y0 y1 yL yB ys HD
          generalize w2.setCell ⟨b1, 0, none⟩ (.slice R2 (n + 1) c2) = w5 at *
          have LNH := hid LN
          clear LN
          go_wp2
          go_roundg (tl.ht)
          case rel => exact ⟨tl, n + 1, l ++ [q], R2, c2, LNH.out, NX, NP, eL', e0', e1', eB'⟩
          case measure => exact MS.out
        · have tb : ((1 : Int) == 1) = true := rfl
          go_wp2_with fail
          refine HBit.out.mono ?_
          rintro e w4 ⟨rfl, rfl⟩
          go_upto_region 7 with fail
          clear v1
          have xB : Below S w w3.drew := yB.drew
          have x0 : w3.drew.heap[S]? = some (.cells #[.slice none 0 0, .int .u8 0, .string ⟨#[]⟩, .slice none 0 0] 52 (0, 0)) := y0
          have x1 : w3.drew.heap[b1]? = some (.cells #[.slice R n c', .int .u8 0, .string ⟨#[]⟩, .slice none 0 0] 52 (0, 0)) := y1
          have xL : Txt w3.drew S R c' l := yL
          have GG := hid (And.intro x0 (And.intro x1 (And.intro xB xL)))
          have dd0 : Calls Tryd.prog 62 #[vl] w3.drew fun e w' => e = .returned (.string (digS tl)) ∧ Below w3.drew.heap.size w3.drew w' := digest_any (TT0.out.below (HS.out ▸ xB)) (TL.out.1.move xB)
          have HD := hid dd0
          obtain ⟨q, hq⟩ : ∃ q, q = digS tl := ⟨_, rfl⟩
          rw [← hq] at HD
          have HQ := hid hq
          have NX : Hid (walkT T 0 key = ((l ++ [q]) ++ (walkT tr (l ++ [q]).length key).1, (walkT tr (l ++ [q]).length key).2)) := hid (by
            have h1 := HW.out
            have h2 := HN.out
            have h3 := BB.out
            rw [h1, HQ.out, List.length_append, List.length_singleton, h2]
            simp only [walkT]
            rw [← h3]
            simp)
          have NP : Hid (tr.ht ≤ tr.ht ∧ (l ++ [q]).length + tr.ht ≤ 256 ∧ tr.Small ∧ TreeAt w S vr tr) := hid (by
            have h1 := HP2.out.2.1
            have h4 := HP2.out.2.2.1
            refine ⟨Nat.le_refl _, ?_, ?_, TL.out.2⟩
            · rw [List.length_append, List.length_singleton]
              simp only [Tr.ht] at h1
              omega
            · exact h4.2)
          have MS : Hid (tr.ht < gk) := hid (by
            have h1 := HP2.out.1
            simp only [Tr.ht] at h1
            omega)
          have NN := HN.out
          have ys' : S ≤ w3.drew.heap.size := ys
          have v2 : w3.cell? ⟨b1, 0, none⟩ = some (.slice R n c') := cell_at y1 rfl
          clear dd0 hq x0 x1 xB xL HBit y0 y1 yL yB NN HP2 HW BB ys HQ
          go_wp2
          refine start_ (n := 8) (S := fun w' => w'.cell? ⟨b1, 0, none⟩ = some (.slice R n c')) (ds := [7]) #[false, false, false, false, false, false, false, false] (by kernel_rfl) rfl rfl (v2) (fun hHeld => ?_)
          refine pure_ (i := 0) (N := some 32) (v := ?_) (a' := ?_) #[true, false, false, false, false, false, false, false] rfl rfl (by kernel_rfl) (fun _ _ _ h => h) (Or.inl ⟨by rfl, ?_⟩) ?_ ?_
          rotate_left
          · intro w'
            go_simp
            with_reducible rfl
          rotate_left
          · simp only [Act.put, List.setIfInBounds_toArray, List.set_cons_zero, List.set_cons_succ, i64_w, i32_w]
            rfl
          refine pure_ (i := 2) (N := some 34) (v := ?_) (a' := ?_) #[true, false, true, false, false, false, false, false] rfl rfl (by kernel_rfl) (fun _ _ _ h => h) (Or.inl ⟨by rfl, ?_⟩) ?_ ?_
          rotate_left
          · intro w'
            go_simp
            with_reducible rfl
          rotate_left
          · simp only [Act.put, List.setIfInBounds_toArray, List.set_cons_zero, List.set_cons_succ, i64_w, i32_w]
            rfl
          refine take_ (i := 1) (N := some 33) (v := ?_) (a' := ?_) #[true, true, true, false, false, false, false, false] rfl rfl (by kernel_rfl) (fun _ _ _ h => h) (Or.inl ⟨by rfl, ?_⟩) hHeld ?_ ?_
          rotate_left
          · intro w' s0
            go_simp
            with_reducible rfl
          rotate_left
          · simp only [Act.put, List.setIfInBounds_toArray, List.set_cons_zero, List.set_cons_succ, i64_w, i32_w]
            rfl
          refine one_ (i := 3) (N := some 35) #[true, true, true, true, false, false, false, false] rfl rfl (by kernel_rfl) (by decide) (fun K hK => ?_)
          refine goes_ Tryd.func62 (by kernel_rfl) rfl #[vl] (by rfl) rfl rfl (by simp only [List.map_toArray, List.map_cons, List.map_nil]; rfl) ?_
          with_reducible refine (HD.out).mono ?_
          rintro e' w1 ⟨rfl, d1⟩
          refine ⟨_, rfl, ?_⟩
          have y0 := below_heap d1 GG.out.1
          have y1 := below_heap d1 GG.out.2.1
          have yL := GG.out.2.2.2.below d1
          have yB : Below S w w1 := GG.out.2.2.1.trans (d1.mono ys')
          have ys : S ≤ w1.heap.size := by have := lt_of_block y0; omega
          refine hK.out _ _ ((cell_at y1 rfl)) (fun hHeld => ?_)
          clear hK K
          refine norm_ (a' := ?_) ?_ ?_
          rotate_left
          · show Act.put _ (some 35) _ = _
            simp only [Act.put, List.setIfInBounds_toArray, List.set_cons_zero, List.set_cons_succ, i64_w, i32_w]
            rfl
          refine one_ (i := 4) (N := some 36) #[true, true, true, true, true, false, false, false] rfl rfl (by kernel_rfl) (by decide) (fun K hK => ?_)
          refine value_ (w1 := ?_) (v := ?_) (by rfl) rfl ?_ ?_
          rotate_left 2
          · go_simp
            constructor
            · rfl
            · rfl
          have al0 := below_alloc (Below.refl _ w1) (.cells #[.string q] 9)
          refine hK.out _ _ ((below_cell al0 hHeld)) (fun hHeld => ?_)
          clear hK K
          refine norm_ (a' := ?_) ?_ ?_
          rotate_left
          · show Act.put _ (some 36) _ = _
            simp only [Act.put, List.setIfInBounds_toArray, List.set_cons_zero, List.set_cons_succ, i64_w, i32_w]
            rfl
          refine one_ (i := 5) (N := some 37) #[true, true, true, true, true, true, false, false] rfl rfl (by kernel_rfl) (by decide) (fun K hK => ?_)
          refine step_appT rfl (.tmp 33) (.tmp 36) rfl S (Nat.le_trans ys al0.size) R c' n l rfl HN.out (yL.below al0) _ q rfl (cell_at (heap_alloc_new _ _) rfl) (by omega) ?_
          intro R2 c2 w2 m1 m2 m3
          have e1 := (yL.below al0).beside HN.out m2 (below_heap al0 y1) (by decide)
          have e0 := (yL.below al0).beside HN.out m2 (below_heap al0 y0) (by decide)
          have eX := (yL.below al0).grew HN.out m2 ((Below.refl S w1).alloc ys _) (Nat.le_trans ys al0.size)
          have d0 := cell_at e1 (i := 0) (v := .slice R n c') rfl
          have d1 := free_at e1 0
          refine hK.out _ _ (d0) (fun hHeld => ?_)
          clear hK K
          refine norm_ (a' := ?_) ?_ ?_
          rotate_left
          · show Act.put _ (some 37) _ = _
            simp only [Act.put, List.setIfInBounds_toArray, List.set_cons_zero, List.set_cons_succ, i64_w, i32_w]
            rfl
          refine pure_ (i := 6) (N := some 38) (v := ?_) (a' := ?_) #[true, true, true, true, true, true, true, false] rfl rfl (by kernel_rfl) (fun _ _ _ h => h) (Or.inl ⟨by rfl, ?_⟩) ?_ ?_
          rotate_left
          · intro w'
            go_simp
            with_reducible rfl
          rotate_left
          · simp only [Act.put, List.setIfInBounds_toArray, List.set_cons_zero, List.set_cons_succ, i64_w, i32_w]
            rfl
          refine last_ (i := 7) (N := none) #[true, true, true, true, true, true, true, true] rfl rfl (by kernel_rfl) (by decide) (fun K hK => ?_)
          refine skip_ (w1 := ?_) (by rfl) rfl ?_ ?_
          rotate_left
          · go_simp
            rfl
          refine hK.out _ _ ?_
          clear hK K
          refine done_ (by kernel_rfl) ?_
          have e1' : (w2.setCell ⟨b1, 0, none⟩ (.slice R2 (n + 1) c2)).heap[b1]? = some (.cells #[.slice R2 (n + 1) c2, .int .u8 0, .string ⟨#[]⟩, .slice none 0 0] 52 (0, 0)) := by rw [heap_set e1]; rfl
          have e0' := (keeps_one w2 b1 0 (.slice R2 (n + 1) c2)).heap e0 (by omega)
          have eL' := m1.far (keeps_one w2 b1 0 (.slice R2 (n + 1) c2)) e1 (by decide)
          have eX' := eX.setCell (p := ⟨b1, 0, none⟩) (show S ≤ b1 by omega) (.slice R2 (n + 1) c2)
          have eB' := yB.trans eX'
          have LN : (l ++ [q]).length = n + 1 := by rw [List.length_append, List.length_singleton, HN.out]
          clear m1 m2 m3 e1 e0 eX eX' d0 al0 GG v2 y0 y1 yL yB ys HD
          generalize w2.setCell ⟨b1, 0, none⟩ (.slice R2 (n + 1) c2) = w5 at *
          have LNH := hid LN
          clear LN
          go_wp2
          go_roundg (tr.ht)
          case rel => exact ⟨tr, n + 1, l ++ [q], R2, c2, LNH.out, NX, NP, eL', e0', e1', eB'⟩
          case measure => exact MS.out
  case rest =>
    clear L0 g0 g1 hB N0 W0 P0 TV HH
    obtain ⟨t, l, R, c', hnn, HW, HX, hL, hl, g0, g1, hB⟩ := hcut
    obtain ⟨n, hn⟩ : ∃ n, n = l.length := ⟨_, rfl⟩
    rw [← hn] at g1 hl
    have HN := hid hn
    clear hn
    have T1 := hid (HX.out.2.move hB)
    have sB : S ≤ wc.heap.size := by have := lt_of_block g0; omega
    by_cases hlf : isLeaf t = true
    · obtain ⟨y, rfl⟩ : ∃ y, t = .leaf y := by cases t with | leaf y => exact ⟨y, rfl⟩ | nil => cases hlf | node a b => cases hlf
      have HL0 := leafOf_leaf (show y.row.length ≤ 1000000 from HX.out.1) T1.out
      obtain ⟨m, hm⟩ : ∃ m, m = y.row.length := ⟨_, rfl⟩
      rw [← hm] at HL0
      have HL := hid HL0
      have HM := hid hm
      clear HL0 hm hlf hnn
      obtain ⟨yk, hyk⟩ : ∃ k, k = y.key := ⟨_, rfl⟩
      rw [← hyk] at HL
      have HY := hid hyk
      clear hyk
      go_wp2_with fail
      refine HL.out.mono ?_
      rintro e w3 ⟨A, d, rfl, r3, b3⟩
      have y0 := below_heap b3 g0
      have y1 := below_heap b3 g1
      have yL := hL.below b3
      have yB : Below S w w3 := hB.trans (b3.mono sB)
      have yr : Row w3 S A d y.row := r3.lower sB
      have P0 := show buildT T key = endT l (.leaf y) key by unfold buildT; rw [HW.out]
      clear g0 g1 hL hB b3 r3 HL sB T1
      by_cases hk : yk = key
      · have tk : (yk.toList == key.toList) = true := by rw [hk]; simp
        have PB := hid (show buildT T key = ⟨l, 1, ⟨#[]⟩, y.row⟩ by rw [P0]; unfold endT; simp only; rw [if_pos (HY.out.symm.trans hk)])
        clear P0 hk
        obtain ⟨p0, p1, p2, p3, p0', p1', p2', p3'⟩ := four y1
        have x01 : (w3.setCell ⟨b1, 1, none⟩ (.int .u8 1)).heap[b1]? = some (.cells #[.slice R n c', .int .u8 1, .string ⟨#[]⟩, .slice none 0 0] 52 (0, 0)) := by rw [heap_set y1]; rfl
        have x00 := (keeps_one w3 b1 1 (.int .u8 1)).heap y0 (by omega)
        have x0L := yL.far (keeps_one w3 b1 1 (.int .u8 1)) y1 (by decide)
        have x0r := yr.far (keeps_one w3 b1 1 (.int .u8 1)) y1 (by decide)
        have x0B := yB.setCell (p := ⟨b1, 1, none⟩) (show S ≤ b1 by omega) (.int .u8 1)
        clear y0 y1 yL yr yB
        have x11 : ((w3.setCell ⟨b1, 1, none⟩ (.int .u8 1)).setCell ⟨b1, 3, none⟩ (.slice A m d)).heap[b1]? = some (.cells #[.slice R n c', .int .u8 1, .string ⟨#[]⟩, .slice A m d] 52 (0, 0)) := by rw [heap_set x01]; rfl
        have x10 := (keeps_one (w3.setCell ⟨b1, 1, none⟩ (.int .u8 1)) b1 3 (.slice A m d)).heap x00 (by omega)
        have x1L := x0L.far (keeps_one (w3.setCell ⟨b1, 1, none⟩ (.int .u8 1)) b1 3 (.slice A m d)) x01 (by decide)
        have x1r := x0r.far (keeps_one (w3.setCell ⟨b1, 1, none⟩ (.int .u8 1)) b1 3 (.slice A m d)) x01 (by decide)
        have x1B := x0B.setCell (p := ⟨b1, 3, none⟩) (show S ≤ b1 by omega) (.slice A m d)
        clear x00 x01 x0L x0r x0B
        go_upto_region 14 with fail
        generalize ((w3.setCell ⟨b1, 1, none⟩ (.int .u8 1)).setCell ⟨b1, 3, none⟩ (.slice A m d)) = X at *
        clear p0 p1 p2 p3 p0' p1' p2' p3'
        obtain ⟨u0, u1, u2, u3, u0', u1', u2', u3'⟩ := four x10
        obtain ⟨p0, p1, p2, p3, p0', p1', p2', p3'⟩ := four x11
        have E := hid (built_end (P := ⟨l, 1, ⟨#[]⟩, y.row⟩) HS.out x10 x1L x1r HN.out.symm HM.out.symm rfl rfl x1B)
        have G := hid (set4_heap (a := .slice R n c') (b := .int .u8 1) (c := .string ⟨#[]⟩) (d := .slice A m d) x10)
        clear x10 x11 x1L x1r x1B
        go_wp2
        refine bodyPost_ret (ret_cell_one rfl rfl G.out Tryd.underlying52 rfl infPP) rfl ?_
        rw [PB.out]
        exact E.out
      · have tk : (yk.toList == key.toList) = false := by rw [str_beq]; simp [hk]
        have PB := hid (show buildT T key = ⟨l, 2, yk, y.row⟩ by rw [P0]; unfold endT; simp only; rw [if_neg (fun h => hk (HY.out.trans h)), HY.out])
        clear P0 hk
        obtain ⟨p0, p1, p2, p3, p0', p1', p2', p3'⟩ := four y1
        have x01 : (w3.setCell ⟨b1, 1, none⟩ (.int .u8 2)).heap[b1]? = some (.cells #[.slice R n c', .int .u8 2, .string ⟨#[]⟩, .slice none 0 0] 52 (0, 0)) := by rw [heap_set y1]; rfl
        have x00 := (keeps_one w3 b1 1 (.int .u8 2)).heap y0 (by omega)
        have x0L := yL.far (keeps_one w3 b1 1 (.int .u8 2)) y1 (by decide)
        have x0r := yr.far (keeps_one w3 b1 1 (.int .u8 2)) y1 (by decide)
        have x0B := yB.setCell (p := ⟨b1, 1, none⟩) (show S ≤ b1 by omega) (.int .u8 2)
        clear y0 y1 yL yr yB
        have x11 : ((w3.setCell ⟨b1, 1, none⟩ (.int .u8 2)).setCell ⟨b1, 2, none⟩ (.string yk)).heap[b1]? = some (.cells #[.slice R n c', .int .u8 2, .string yk, .slice none 0 0] 52 (0, 0)) := by rw [heap_set x01]; rfl
        have x10 := (keeps_one (w3.setCell ⟨b1, 1, none⟩ (.int .u8 2)) b1 2 (.string yk)).heap x00 (by omega)
        have x1L := x0L.far (keeps_one (w3.setCell ⟨b1, 1, none⟩ (.int .u8 2)) b1 2 (.string yk)) x01 (by decide)
        have x1r := x0r.far (keeps_one (w3.setCell ⟨b1, 1, none⟩ (.int .u8 2)) b1 2 (.string yk)) x01 (by decide)
        have x1B := x0B.setCell (p := ⟨b1, 2, none⟩) (show S ≤ b1 by omega) (.string yk)
        clear x00 x01 x0L x0r x0B
        have x21 : (((w3.setCell ⟨b1, 1, none⟩ (.int .u8 2)).setCell ⟨b1, 2, none⟩ (.string yk)).setCell ⟨b1, 3, none⟩ (.slice A m d)).heap[b1]? = some (.cells #[.slice R n c', .int .u8 2, .string yk, .slice A m d] 52 (0, 0)) := by rw [heap_set x11]; rfl
        have x20 := (keeps_one ((w3.setCell ⟨b1, 1, none⟩ (.int .u8 2)).setCell ⟨b1, 2, none⟩ (.string yk)) b1 3 (.slice A m d)).heap x10 (by omega)
        have x2L := x1L.far (keeps_one ((w3.setCell ⟨b1, 1, none⟩ (.int .u8 2)).setCell ⟨b1, 2, none⟩ (.string yk)) b1 3 (.slice A m d)) x11 (by decide)
        have x2r := x1r.far (keeps_one ((w3.setCell ⟨b1, 1, none⟩ (.int .u8 2)).setCell ⟨b1, 2, none⟩ (.string yk)) b1 3 (.slice A m d)) x11 (by decide)
        have x2B := x1B.setCell (p := ⟨b1, 3, none⟩) (show S ≤ b1 by omega) (.slice A m d)
        clear x10 x11 x1L x1r x1B
        go_upto_region 14 with fail
        generalize (((w3.setCell ⟨b1, 1, none⟩ (.int .u8 2)).setCell ⟨b1, 2, none⟩ (.string yk)).setCell ⟨b1, 3, none⟩ (.slice A m d)) = X at *
        clear p0 p1 p2 p3 p0' p1' p2' p3'
        obtain ⟨u0, u1, u2, u3, u0', u1', u2', u3'⟩ := four x20
        obtain ⟨p0, p1, p2, p3, p0', p1', p2', p3'⟩ := four x21
        have E := hid (built_end (P := ⟨l, 2, yk, y.row⟩) HS.out x20 x2L x2r HN.out.symm HM.out.symm rfl rfl x2B)
        have G := hid (set4_heap (a := .slice R n c') (b := .int .u8 2) (c := .string yk) (d := .slice A m d) x20)
        clear x20 x21 x2L x2r x2B
        go_wp2
        refine bodyPost_ret (ret_cell_one rfl rfl G.out Tryd.underlying52 rfl infPP) rfl ?_
        rw [PB.out]
        exact E.out
    · have hlf' : isLeaf t = false := by simpa using hlf
      have HL := hid (leafOf_none hlf' T1.out)
      have PB := hid (show buildT T key = ⟨l, 0, ⟨#[]⟩, []⟩ by
        unfold buildT
        rw [HW.out]
        cases t with
        | leaf y => cases hlf'
        | nil => rfl
        | node a b => rfl)
      clear hlf hlf' hnn T1 sB
      go_wp2_with fail
      refine HL.out.mono ?_
      rintro e w3 ⟨rfl, rfl⟩
      clear HL
      have rN := Row.nil wc S
      obtain ⟨u0, u1, u2, u3, u0', u1', u2', u3'⟩ := four g0
      obtain ⟨p0, p1, p2, p3, p0', p1', p2', p3'⟩ := four g1
      have E := hid (built_end (P := ⟨l, 0, ⟨#[]⟩, []⟩) HS.out g0 hL rN HN.out.symm rfl rfl rfl hB)
      have G := hid (set4_heap (a := .slice R n c') (b := .int .u8 0) (c := .string ⟨#[]⟩) (d := .slice none 0 0) g0)
      clear g0 g1 hL hB rN
      go_wp2
      refine bodyPost_ret (ret_cell_one rfl rfl G.out Tryd.underlying52 rfl infPP) rfl ?_
      rw [PB.out]
      exact E.out
end Go.Proofs.YtcfjciencggflaaDoor
