/- The walk of the program's Build. -/
import Derived.Test.YtmbgfjcmdolggaaDoorMH
import Derived.Test.YtmbgfjcmdolggaaDoorME
set_option linter.unusedVariables false
set_option linter.unusedSimpArgs false
namespace Go.Proofs.YtmbgfjcmdolggaaDoor
open Go.RowKit PrintLast

def Tr.Small : Tr → Prop
  | .nil => True
  | .leaf x => x.row.length ≤ 1000000
  | .node l r => l.Small ∧ r.Small
theorem treeF_small (f : Nat) : ∀ l : List Itm, (∀ x ∈ l, x.row.length ≤ 1000000) → (treeF f l).Small := by
  induction f with
  | zero =>
    intro l h
    match l, h with
    | [], _ => trivial
    | [x], h => exact h x (by simp)
    | x :: y :: l, h => exact h x (by simp)
  | succ f ih =>
    intro l h
    by_cases h2 : 2 ≤ l.length
    · rw [treeF_big f l h2]
      exact ⟨ih _ (fun x hx => h x (half_mem.1 hx).1), ih _ (fun x hx => h x (half_mem.1 hx).1)⟩
    · match l, h2, h with
      | [], _, _ => trivial
      | [x], _, h => exact h x (by simp)
      | x :: y :: l, h2, _ => simp at h2
/-- The sides of the way to a key, and the way's end. -/
def walkT : Tr → Nat → ByteArray → List ByteArray × Tr
  | .nil, _, _ => ([], .nil)
  | .leaf y, _, _ => ([], .leaf y)
  | .node l r, d, k => if btK k d = 1 then (digS l :: (walkT r (d + 1) k).1, (walkT r (d + 1) k).2) else (digS r :: (walkT l (d + 1) k).1, (walkT l (d + 1) k).2)
/-- The proof of a key. -/
def endT (s : List ByteArray) (t : Tr) (key : ByteArray) : Prf :=
  match t with
  | .leaf y => if y.key = key then ⟨s, 1, ⟨#[]⟩, y.row⟩ else ⟨s, 2, y.key, y.row⟩
  | _ => ⟨s, 0, ⟨#[]⟩, []⟩
def buildT (t : Tr) (key : ByteArray) : Prf := endT (walkT t 0 key).1 (walkT t 0 key).2 key
def Built (w : World) (p : Prf) (x : Ending) (w' : World) : Prop := ∃ A c B d, x = .returned (.agg (prfV A c B d p)) ∧ Txt w' w.heap.size A c p.side ∧ Row w' w.heap.size B d p.row ∧ Below w.heap.size w w'
theorem built_end {w X : World} {S k m c d : Nat} {kk : Int} {R B : Option Addr} {key : ByteArray} {P : Prf} (hS : S = w.heap.size) (h0 : X.heap[S]? = some (.cells #[.slice none 0 0, .int .u8 0, .string ⟨#[]⟩, .slice none 0 0] 30 (0, 0))) (hL : Txt X S R c P.side) (hr : Row X S B d P.row) (hk : P.side.length = k) (hm : P.row.length = m) (hkd : (P.kind.toNat : Int) = kk) (hky : P.key = key) (hX : Below S w X) :
    Built w P (.returned (.agg #[.slice R k c, .int .u8 kk, .string key, .slice B m d])) ((((X.setCell ⟨S, 0, none⟩ (.slice R k c)).setCell ⟨S, 1, none⟩ (.int .u8 kk)).setCell ⟨S, 2, none⟩ (.string key)).setCell ⟨S, 3, none⟩ (.slice B m d)) := by
  subst hk hm hkd hky
  refine ⟨R, c, B, d, rfl, ?_, ?_, ?_⟩
  · rw [← hS]; exact own_far hL (set4_keeps X S _ _ _ _) h0 (by decide)
  · rw [← hS]; exact own_far hr (set4_keeps X S _ _ _ _) h0 (by decide)
  · rw [← hS]; exact set4_below hX (Nat.le_refl _) _ _ _ _

set_option maxHeartbeats 1600000 in
/-- The halves of a tree that lies below S, in a later world. -/
theorem halves_at {w wr : World} {S : Nat} {v : Value} {l r : Tr} (h : TreeAt w S v (.node l r)) (hb : Below S w wr) :
    Calls Tryd.prog 29 #[v] wr fun e w' => ∃ vl vr, e = .returned (.tuple #[vl, vr, .bool true]) ∧ Hid (TreeAt w S vl l ∧ TreeAt w S vr r) ∧ Below wr.heap.size wr w' := by
  have H := hid (single_node (h.move hb))
  obtain ⟨g, vl, vr, rfl, hg, h3, h4, h5⟩ := h
  have h3' := (hb.block g hg).trans h3
  obtain ⟨c0, c1, c2, c3, c4, c5, c6⟩ := seven h3'
  have HL := hid (And.intro h4 h5)
  clear h3 h3' c2 c3 c4 c5 c6 h4 h5 hb
  go_enter Tryd.func29, Tryd.ntmps29
  go_wp2_with fail
  refine H.out.mono ?_
  rintro e w1 ⟨rfl, rfl⟩
  clear H
  go_wp2
  refine start_ (n := 11) (S := fun w' => w'.cell? ⟨g, 0, none⟩ = some vl ∧ w'.cell? ⟨g, 1, none⟩ = some vr) (ds := []) #[false, false, false, false, false, false, false, false, false, false, false] (by kernel_rfl) rfl rfl ⟨c0, c1⟩ (fun hHeld => ?_)
  refine pure_ (i := 0) (N := some 11) (v := ?_) (a' := ?_) #[true, false, false, false, false, false, false, false, false, false, false] rfl rfl (by kernel_rfl) (fun _ _ _ h => h) (Or.inl ⟨by rfl, ?_⟩) ?_ ?_
  rotate_left
  · intro w'
    go_simp
    with_reducible rfl
  rotate_left
  · simp only [Act.put, List.setIfInBounds_toArray, List.set_cons_zero, List.set_cons_succ, i64_w, i32_w]
    rfl
  refine pure_ (i := 1) (N := some 12) (v := ?_) (a' := ?_) #[true, true, false, false, false, false, false, false, false, false, false] rfl rfl (by kernel_rfl) (fun _ _ _ h => h) (Or.inl ⟨by rfl, ?_⟩) ?_ ?_
  rotate_left
  · intro w'
    go_simp
    with_reducible rfl
  rotate_left
  · simp only [Act.put, List.setIfInBounds_toArray, List.set_cons_zero, List.set_cons_succ, i64_w, i32_w]
    rfl
  refine pure_ (i := 2) (N := some 13) (v := ?_) (a' := ?_) #[true, true, true, false, false, false, false, false, false, false, false] rfl rfl (by kernel_rfl) (fun _ _ _ h => h) (Or.inl ⟨by rfl, ?_⟩) ?_ ?_
  rotate_left
  · intro w'
    go_simp
    with_reducible rfl
  rotate_left
  · simp only [Act.put, List.setIfInBounds_toArray, List.set_cons_zero, List.set_cons_succ, i64_w, i32_w]
    rfl
  refine pure_ (i := 4) (N := some 15) (v := ?_) (a' := ?_) #[true, true, true, false, true, false, false, false, false, false, false] rfl rfl (by kernel_rfl) (fun _ _ _ h => h) (Or.inl ⟨by rfl, ?_⟩) ?_ ?_
  rotate_left
  · intro w'
    go_simp
    with_reducible rfl
  rotate_left
  · simp only [Act.put, List.setIfInBounds_toArray, List.set_cons_zero, List.set_cons_succ, i64_w, i32_w]
    rfl
  refine pure_ (i := 5) (N := some 16) (v := ?_) (a' := ?_) #[true, true, true, false, true, true, false, false, false, false, false] rfl rfl (by kernel_rfl) (fun _ _ _ h => h) (Or.inl ⟨by rfl, ?_⟩) ?_ ?_
  rotate_left
  · intro w'
    go_simp
    with_reducible rfl
  rotate_left
  · simp only [Act.put, List.setIfInBounds_toArray, List.set_cons_zero, List.set_cons_succ, i64_w, i32_w]
    rfl
  refine pure_ (i := 6) (N := some 17) (v := ?_) (a' := ?_) #[true, true, true, false, true, true, true, false, false, false, false] rfl rfl (by kernel_rfl) (fun _ _ _ h => h) (Or.inl ⟨by rfl, ?_⟩) ?_ ?_
  rotate_left
  · intro w'
    go_simp
    with_reducible rfl
  rotate_left
  · simp only [Act.put, List.setIfInBounds_toArray, List.set_cons_zero, List.set_cons_succ, i64_w, i32_w]
    rfl
  refine take_ (i := 3) (N := some 14) (v := ?_) (a' := ?_) #[true, true, true, true, true, true, true, false, false, false, false] rfl rfl (by kernel_rfl) (fun _ _ _ h => h) (Or.inl ⟨by rfl, ?_⟩) hHeld ?_ ?_
  rotate_left
  · rintro w' ⟨s0, s1⟩
    go_simp
    with_reducible rfl
  rotate_left
  · simp only [Act.put, List.setIfInBounds_toArray, List.set_cons_zero, List.set_cons_succ, i64_w, i32_w]
    rfl
  refine pure_ (i := 8) (N := some 2) (v := ?_) (a' := ?_) #[true, true, true, true, true, true, true, false, true, false, false] rfl rfl (by kernel_rfl) (fun _ _ _ h => h) (Or.inl ⟨by rfl, ?_⟩) ?_ ?_
  rotate_left
  · intro w'
    go_simp
    with_reducible rfl
  rotate_left
  · simp only [Act.put, List.setIfInBounds_toArray, List.set_cons_zero, List.set_cons_succ, i64_w, i32_w]
    rfl
  refine take_ (i := 7) (N := some 18) (v := ?_) (a' := ?_) #[true, true, true, true, true, true, true, true, true, false, false] rfl rfl (by kernel_rfl) (fun _ _ _ h => h) (Or.inl ⟨by rfl, ?_⟩) hHeld ?_ ?_
  rotate_left
  · rintro w' ⟨s0, s1⟩
    go_simp
    with_reducible rfl
  rotate_left
  · simp only [Act.put, List.setIfInBounds_toArray, List.set_cons_zero, List.set_cons_succ, i64_w, i32_w]
    rfl
  refine pure_ (i := 9) (N := some 3) (v := ?_) (a' := ?_) #[true, true, true, true, true, true, true, true, true, true, false] rfl rfl (by kernel_rfl) (fun _ _ _ h => h) (Or.inl ⟨by rfl, ?_⟩) ?_ ?_
  rotate_left
  · intro w'
    go_simp
    with_reducible rfl
  rotate_left
  · simp only [Act.put, List.setIfInBounds_toArray, List.set_cons_zero, List.set_cons_succ, i64_w, i32_w]
    rfl
  refine pure_ (i := 10) (N := some 4) (v := ?_) (a' := ?_) #[true, true, true, true, true, true, true, true, true, true, true] rfl rfl (by kernel_rfl) (fun _ _ _ h => h) (Or.inl ⟨by rfl, ?_⟩) ?_ ?_
  rotate_left
  · intro w'
    go_simp
    with_reducible rfl
  rotate_left
  · simp only [Act.put, List.setIfInBounds_toArray, List.set_cons_zero, List.set_cons_succ, i64_w, i32_w]
    rfl
  refine done_ (by kernel_rfl) ?_
  go_wp2
  go_ret3
  exact ⟨vl, vr, rfl, HL, (Below.refl _ _).drew⟩

set_option maxRecDepth 100000 in
set_option maxHeartbeats 6400000 in
theorem build_tree {w : World} (hT : Table w) {v : Value} {T : Tr} {key : ByteArray} (hv : Tree w v T) (hk : key.size ≤ 1000000) (hh : T.ht ≤ 256) (hs : T.Small) :
    Calls Tryd.prog 25 #[v, .string key] w (Built w (buildT T key)) := by
  have ks : key.size ≤ maxLen := by unfold maxLen; omega
  obtain ⟨g0, g1, al⟩ := alloc2 w (.cells #[.slice none 0 0, .int .u8 0, .string ⟨#[]⟩, .slice none 0 0] 30) (.cells #[.slice none 0 0, .int .u8 0, .string ⟨#[]⟩, .slice none 0 0] 30)
  obtain ⟨S, hS⟩ : ∃ S, S = w.heap.size := ⟨_, rfl⟩
  have tv : TreeAt w S v T := by rw [hS]; exact hv
  rw [← hS] at g0 g1 al
  have HS := hid hS
  have TT0 := hid hT
  have TV := hid tv
  have HH := hid (And.intro hh hs)
  clear hS hT hv tv hh hs
  go_enter Tryd.func25, Tryd.ntmps25
  go_upto_region 2 with fail
  rw [← HS.out]
  generalize hW : (w.alloc (.cells #[.slice none 0 0, .int .u8 0, .string ⟨#[]⟩, .slice none 0 0] 30)).alloc (.cells #[.slice none 0 0, .int .u8 0, .string ⟨#[]⟩, .slice none 0 0] 30) = W at *
  obtain ⟨b1, hb1⟩ : ∃ b, b = S + 1 := ⟨_, rfl⟩
  rw [← hb1] at g1 ⊢
  have o01 : S < b1 := by omega
  have sW : S ≤ W.heap.size := by have := lt_of_block g0; omega
  clear hW hb1
  go_wp2_with (refine wpList_conv rfl (.tmp 13) rfl key rfl ks ?_)
  intro ga ca w1 _ q1 z1
  have y0 := below_heap z1 g0
  have y1 := below_heap z1 g1
  have yB : Below S w w1 := al.trans (z1.mono sW)
  have tT := TT0.out.below (HS.out ▸ yB)
  have H := hid (sumK tT hk q1)
  clear q1 z1 g0 g1 al sW ks tT
  go_wp2_with fail
  refine H.out.mono ?_
  rintro e w2 ⟨rfl, b2⟩
  have g0 := below_heap b2 y0
  have g1 := below_heap b2 y1
  have hB : Below S w w2 := yB.trans (b2.mono (by have := lt_of_block y0; omega))
  have L0 : Txt w2 S none 0 [] := Txt.nil _ _
  have W0 : Hid (walkT T 0 key = ([] ++ (walkT T ([] : List ByteArray).length key).1, (walkT T ([] : List ByteArray).length key).2)) := hid rfl
  have P0 : Hid (T.ht ≤ T.ht ∧ ([] : List ByteArray).length + T.ht ≤ 256 ∧ T.Small ∧ TreeAt w S v T) := hid ⟨Nat.le_refl _, by simp; exact HH.out.1, HH.out.2, TV.out⟩
  have N0 : ([] : List ByteArray).length = 0 := rfl
  clear b2 y0 y1 yB H
  go_upto_block 0 with fail
  generalize hps : pathS key = ps at *
  have HP := hid hps
  clear hps
  go_cut [0] (fun vx wx => ∃ (t : Tr) (l : List ByteArray) (R : Option Addr) (c' : Nat), isNode t = false ∧ Hid (walkT T 0 key = (l, t)) ∧ Hid (t.Small ∧ TreeAt w S vx t) ∧ Txt wx S R c' l ∧ l.length ≤ 256 ∧ wx.heap[S]? = some (.cells #[.slice none 0 0, .int .u8 0, .string ⟨#[]⟩, .slice none 0 0] 30 (0, 0)) ∧ wx.heap[b1]? = some (.cells #[.slice R l.length c', .int .u8 0, .string ⟨#[]⟩, .slice none 0 0] 30 (0, 0)) ∧ Below S w wx)
  case first =>
    go_wp2
    go_loopg [0] (T.ht) (fun k vx wx => ∃ (t : Tr) (n : Nat) (l : List ByteArray) (R : Option Addr) (c' : Nat), l.length = n ∧ Hid (walkT T 0 key = (l ++ (walkT t l.length key).1, (walkT t l.length key).2)) ∧ Hid (t.ht ≤ k ∧ l.length + t.ht ≤ 256 ∧ t.Small ∧ TreeAt w S vx t) ∧ Txt wx S R c' l ∧ wx.heap[S]? = some (.cells #[.slice none 0 0, .int .u8 0, .string ⟨#[]⟩, .slice none 0 0] 30 (0, 0)) ∧ wx.heap[b1]? = some (.cells #[.slice R n c', .int .u8 0, .string ⟨#[]⟩, .slice none 0 0] 30 (0, 0)) ∧ Below S w wx)
    case atStart => exact ⟨T, 0, [], none, 0, N0, W0, P0, L0, g0, g1, hB⟩
    case round =>
      clear L0 g0 g1 hB N0 W0 P0 TV HH
      obtain ⟨t, n, l, R, c', hn, HW, HP2, hL, g0, g1, hB⟩ := hrel
      have HN := hid hn
      clear hn
      have n256 : n ≤ 256 := by have := HP2.out; have := HN.out; omega
      have sB : S ≤ wr.heap.size := by have := lt_of_block g0; omega
      have T1 := hid (HP2.out.2.2.2.move hB)
      cases t with
      | nil =>
        have e0 := HP2.out.2.2.2
        cases e0
        have HX : Hid (Calls Tryd.prog 29 #[.pointer none] wr fun e w' => e = .returned (.tuple #[.pointer none, .pointer none, .bool false]) ∧ wr = w') := hid halves_nil
        have E := hid (show walkT T 0 key = (l, .nil) by rw [HW.out]; simp [walkT])
        have E2 := hid (show Tr.nil.Small ∧ TreeAt w S (.pointer none) .nil from ⟨trivial, rfl⟩)
        have LN : l.length ≤ 256 := by have := HN.out; omega
        have g1' : wr.heap[b1]? = some (.cells #[.slice R l.length c', .int .u8 0, .string ⟨#[]⟩, .slice none 0 0] 30 (0, 0)) := by rw [HN.out]; exact g1
        have EE := hid (And.intro g0 (And.intro g1' (And.intro hL (And.intro hB LN))))
        clear g0 g1 g1' hL hB LN
        go_wp2_with fail
        refine HX.out.mono ?_
        rintro e w3 ⟨rfl, rfl⟩
        go_wp2
        go_meet
        exact ⟨.nil, l, R, c', rfl, E, E2, EE.out.2.2.1, EE.out.2.2.2.2, EE.out.1, EE.out.2.1, EE.out.2.2.2.1⟩
      | leaf x =>
        have HX := hid (halves_leaf T1.out)
        have E := hid (show walkT T 0 key = (l, .leaf x) by rw [HW.out]; simp [walkT])
        have E2 := hid (And.intro HP2.out.2.2.1 HP2.out.2.2.2)
        have LN : l.length ≤ 256 := by have := HN.out; omega
        have g1' : wr.heap[b1]? = some (.cells #[.slice R l.length c', .int .u8 0, .string ⟨#[]⟩, .slice none 0 0] 30 (0, 0)) := by rw [HN.out]; exact g1
        have EE := hid (And.intro g0 (And.intro g1' (And.intro hL (And.intro hB LN))))
        clear g0 g1 g1' hL hB LN
        go_wp2_with fail
        refine HX.out.mono ?_
        rintro e w3 ⟨rfl, rfl⟩
        go_wp2
        go_meet
        exact ⟨.leaf x, l, R, c', rfl, E, E2, EE.out.2.2.1, EE.out.2.2.2.2, EE.out.1, EE.out.2.1, EE.out.2.2.2.1⟩
      | node tl tr =>
        have HX := hid (halves_at HP2.out.2.2.2 hB)
        have v0 := cell_at g1 (i := 0) (v := .slice R n c') rfl
        have GG := hid (And.intro g0 (And.intro g1 (And.intro hB hL)))
        clear g0 g1 hL
        go_wp2_with fail
        refine HX.out.mono ?_
        rintro e w3 ⟨vl, vr, rfl, TL, b3⟩
        have yB : Below S w w3 := hB.trans (b3.mono sB)
        have y0 := below_heap b3 GG.out.1
        have y1 := below_heap b3 GG.out.2.1
        have yL : Txt w3 S R c' l := GG.out.2.2.2.below b3
        have v1 := cell_at y1 (i := 0) (v := .slice R n c') rfl
        obtain ⟨b, hb⟩ : ∃ b, b = btK key n := ⟨_, rfl⟩
        have HBit := hid (bitK_any (w := w3) (k := key) (d := n) (by omega))
        rw [← hb, HP.out] at HBit
        have BB := hid hb
        clear v0 GG b3 HX T1 hB sB
        have ys : S ≤ w3.heap.size := by have := lt_of_block y0; omega
        have hb2 : b = 0 ∨ b = 1 := by rw [hb]; exact btK_two _ _
        clear hb
        rcases hb2 with rfl | rfl
        · have tb : ((0 : Int) == 1) = false := rfl
          go_wp2_with fail
          refine HBit.out.mono ?_
          rintro e w4 ⟨rfl, rfl⟩
          go_upto_region 7 with fail
          clear v1
          have xB : Below S w w3.drew := yB.drew
          have x0 : w3.drew.heap[S]? = some (.cells #[.slice none 0 0, .int .u8 0, .string ⟨#[]⟩, .slice none 0 0] 30 (0, 0)) := y0
          have x1 : w3.drew.heap[b1]? = some (.cells #[.slice R n c', .int .u8 0, .string ⟨#[]⟩, .slice none 0 0] 30 (0, 0)) := y1
          have xL : Txt w3.drew S R c' l := yL
          have GG := hid (And.intro x0 (And.intro x1 (And.intro xB xL)))
          have dd0 : Calls Tryd.prog 32 #[vr] w3.drew fun e w' => e = .returned (.string (digS tr)) ∧ Below w3.drew.heap.size w3.drew w' := digest_any (TT0.out.below (HS.out ▸ xB)) (TL.out.2.move xB)
          have HD := hid dd0
          obtain ⟨q, hq⟩ : ∃ q, q = digS tr := ⟨_, rfl⟩
          rw [← hq] at HD
          have HQ := hid hq
          have NX : Hid (walkT T 0 key = ((l ++ [q]) ++ (walkT tl (l ++ [q]).length key).1, (walkT tl (l ++ [q]).length key).2)) := hid (by
            have h1 := HW.out
            have h2 := HN.out
            have h3 := BB.out
            rw [h1, HQ.out, List.length_append, List.length_singleton, h2]
            simp only [walkT]
            rw [← h3]
            simp)
          have NP : Hid (tl.ht ≤ tl.ht ∧ (l ++ [q]).length + tl.ht ≤ 256 ∧ tl.Small ∧ TreeAt w S vl tl) := hid (by
            have h1 := HP2.out.2.1
            have h4 := HP2.out.2.2.1
            refine ⟨Nat.le_refl _, ?_, ?_, TL.out.1⟩
            · rw [List.length_append, List.length_singleton]
              simp only [Tr.ht] at h1
              omega
            · exact h4.1)
          have MS : Hid (tl.ht < gk) := hid (by
            have h1 := HP2.out.1
            simp only [Tr.ht] at h1
            omega)
          have NN := HN.out
          have ys' : S ≤ w3.drew.heap.size := ys
          have v2 : w3.cell? ⟨b1, 0, none⟩ = some (.slice R n c') := cell_at y1 rfl
          clear dd0 hq x0 x1 xB xL HBit y0 y1 yL yB NN HP2 HW BB ys HQ
          go_wp2
          refine start_ (n := 8) (S := fun w' => w'.cell? ⟨b1, 0, none⟩ = some (.slice R n c')) (ds := [7]) #[false, false, false, false, false, false, false, false] (by kernel_rfl) rfl rfl (v2) (fun hHeld => ?_)
          refine pure_ (i := 0) (N := some 32) (v := ?_) (a' := ?_) #[true, false, false, false, false, false, false, false] rfl rfl (by kernel_rfl) (fun _ _ _ h => h) (Or.inl ⟨by rfl, ?_⟩) ?_ ?_
          rotate_left
          · intro w'
            go_simp
            with_reducible rfl
          rotate_left
          · simp only [Act.put, List.setIfInBounds_toArray, List.set_cons_zero, List.set_cons_succ, i64_w, i32_w]
            rfl
          refine pure_ (i := 2) (N := some 34) (v := ?_) (a' := ?_) #[true, false, true, false, false, false, false, false] rfl rfl (by kernel_rfl) (fun _ _ _ h => h) (Or.inl ⟨by rfl, ?_⟩) ?_ ?_
          rotate_left
          · intro w'
            go_simp
            with_reducible rfl
          rotate_left
          · simp only [Act.put, List.setIfInBounds_toArray, List.set_cons_zero, List.set_cons_succ, i64_w, i32_w]
            rfl
          refine take_ (i := 1) (N := some 33) (v := ?_) (a' := ?_) #[true, true, true, false, false, false, false, false] rfl rfl (by kernel_rfl) (fun _ _ _ h => h) (Or.inl ⟨by rfl, ?_⟩) hHeld ?_ ?_
          rotate_left
          · intro w' s0
            go_simp
            with_reducible rfl
          rotate_left
          · simp only [Act.put, List.setIfInBounds_toArray, List.set_cons_zero, List.set_cons_succ, i64_w, i32_w]
            rfl
          refine one_ (i := 3) (N := some 35) #[true, true, true, true, false, false, false, false] rfl rfl (by kernel_rfl) (by decide) (fun K hK => ?_)
          refine goes_ Tryd.func32 (by kernel_rfl) rfl #[vr] (by rfl) rfl rfl (by simp only [List.map_toArray, List.map_cons, List.map_nil]; rfl) ?_
          with_reducible refine (HD.out).mono ?_
          rintro e' w1 ⟨rfl, d1⟩
          refine ⟨_, rfl, ?_⟩
          have y0 := below_heap d1 GG.out.1
          have y1 := below_heap d1 GG.out.2.1
          have yL := GG.out.2.2.2.below d1
          have yB : Below S w w1 := GG.out.2.2.1.trans (d1.mono ys')
          have ys : S ≤ w1.heap.size := by have := lt_of_block y0; omega
          refine hK.out _ _ ((cell_at y1 rfl)) (fun hHeld => ?_)
          clear hK K
          refine norm_ (a' := ?_) ?_ ?_
          rotate_left
          · show Act.put _ (some 35) _ = _
            simp only [Act.put, List.setIfInBounds_toArray, List.set_cons_zero, List.set_cons_succ, i64_w, i32_w]
            rfl
          refine one_ (i := 4) (N := some 36) #[true, true, true, true, true, false, false, false] rfl rfl (by kernel_rfl) (by decide) (fun K hK => ?_)
          refine value_ (w1 := ?_) (v := ?_) (by rfl) rfl ?_ ?_
          rotate_left 2
          · go_simp
            constructor
            · rfl
            · rfl
          have al0 := below_alloc (Below.refl _ w1) (.cells #[.string q] 9)
          refine hK.out _ _ ((below_cell al0 hHeld)) (fun hHeld => ?_)
          clear hK K
          refine norm_ (a' := ?_) ?_ ?_
          rotate_left
          · show Act.put _ (some 36) _ = _
            simp only [Act.put, List.setIfInBounds_toArray, List.set_cons_zero, List.set_cons_succ, i64_w, i32_w]
            rfl
          refine one_ (i := 5) (N := some 37) #[true, true, true, true, true, true, false, false] rfl rfl (by kernel_rfl) (by decide) (fun K hK => ?_)
          refine step_appT rfl (.tmp 33) (.tmp 36) rfl S (Nat.le_trans ys al0.size) R c' n l rfl HN.out (yL.below al0) _ q rfl (cell_at (heap_alloc_new _ _) rfl) (by omega) ?_
          intro R2 c2 w2 m1 m2 m3
          have e1 := (yL.below al0).beside HN.out m2 (below_heap al0 y1) (by decide)
          have e0 := (yL.below al0).beside HN.out m2 (below_heap al0 y0) (by decide)
          have eX := (yL.below al0).grew HN.out m2 ((Below.refl S w1).alloc ys _) (Nat.le_trans ys al0.size)
          have d0 := cell_at e1 (i := 0) (v := .slice R n c') rfl
          have d1 := free_at e1 0
          refine hK.out _ _ (d0) (fun hHeld => ?_)
          clear hK K
          refine norm_ (a' := ?_) ?_ ?_
          rotate_left
          · show Act.put _ (some 37) _ = _
            simp only [Act.put, List.setIfInBounds_toArray, List.set_cons_zero, List.set_cons_succ, i64_w, i32_w]
            rfl
          refine pure_ (i := 6) (N := some 38) (v := ?_) (a' := ?_) #[true, true, true, true, true, true, true, false] rfl rfl (by kernel_rfl) (fun _ _ _ h => h) (Or.inl ⟨by rfl, ?_⟩) ?_ ?_
          rotate_left
          · intro w'
            go_simp
            with_reducible rfl
          rotate_left
          · simp only [Act.put, List.setIfInBounds_toArray, List.set_cons_zero, List.set_cons_succ, i64_w, i32_w]
            rfl
          refine last_ (i := 7) (N := none) #[true, true, true, true, true, true, true, true] rfl rfl (by kernel_rfl) (by decide) (fun K hK => ?_)
          refine skip_ (w1 := ?_) (by rfl) rfl ?_ ?_
          rotate_left
          · go_simp
            rfl
          refine hK.out _ _ ?_
          clear hK K
          refine done_ (by kernel_rfl) ?_
          have e1' : (w2.setCell ⟨b1, 0, none⟩ (.slice R2 (n + 1) c2)).heap[b1]? = some (.cells #[.slice R2 (n + 1) c2, .int .u8 0, .string ⟨#[]⟩, .slice none 0 0] 30 (0, 0)) := by rw [heap_set e1]; rfl
          have e0' := (keeps_one w2 b1 0 (.slice R2 (n + 1) c2)).heap e0 (by omega)
          have eL' := m1.far (keeps_one w2 b1 0 (.slice R2 (n + 1) c2)) e1 (by decide)
          have eX' := eX.setCell (p := ⟨b1, 0, none⟩) (show S ≤ b1 by omega) (.slice R2 (n + 1) c2)
          have eB' := yB.trans eX'
          have LN : (l ++ [q]).length = n + 1 := by rw [List.length_append, List.length_singleton, HN.out]
          clear m1 m2 m3 e1 e0 eX eX' d0 al0 GG v2 y0 y1 yL yB ys HD
          generalize w2.setCell ⟨b1, 0, none⟩ (.slice R2 (n + 1) c2) = w5 at *
          have LNH := hid LN
          clear LN
          go_wp2
          go_roundg (tl.ht)
          case rel => exact ⟨tl, n + 1, l ++ [q], R2, c2, LNH.out, NX, NP, eL', e0', e1', eB'⟩
          case measure => exact MS.out
        · have tb : ((1 : Int) == 1) = true := rfl
          go_wp2_with fail
          refine HBit.out.mono ?_
          rintro e w4 ⟨rfl, rfl⟩
          go_upto_region 7 with fail
          clear v1
          have xB : Below S w w3.drew := yB.drew
          have x0 : w3.drew.heap[S]? = some (.cells #[.slice none 0 0, .int .u8 0, .string ⟨#[]⟩, .slice none 0 0] 30 (0, 0)) := y0
          have x1 : w3.drew.heap[b1]? = some (.cells #[.slice R n c', .int .u8 0, .string ⟨#[]⟩, .slice none 0 0] 30 (0, 0)) := y1
          have xL : Txt w3.drew S R c' l := yL
          have GG := hid (And.intro x0 (And.intro x1 (And.intro xB xL)))
          have dd0 : Calls Tryd.prog 32 #[vl] w3.drew fun e w' => e = .returned (.string (digS tl)) ∧ Below w3.drew.heap.size w3.drew w' := digest_any (TT0.out.below (HS.out ▸ xB)) (TL.out.1.move xB)
          have HD := hid dd0
          obtain ⟨q, hq⟩ : ∃ q, q = digS tl := ⟨_, rfl⟩
          rw [← hq] at HD
          have HQ := hid hq
          have NX : Hid (walkT T 0 key = ((l ++ [q]) ++ (walkT tr (l ++ [q]).length key).1, (walkT tr (l ++ [q]).length key).2)) := hid (by
            have h1 := HW.out
            have h2 := HN.out
            have h3 := BB.out
            rw [h1, HQ.out, List.length_append, List.length_singleton, h2]
            simp only [walkT]
            rw [← h3]
            simp)
          have NP : Hid (tr.ht ≤ tr.ht ∧ (l ++ [q]).length + tr.ht ≤ 256 ∧ tr.Small ∧ TreeAt w S vr tr) := hid (by
            have h1 := HP2.out.2.1
            have h4 := HP2.out.2.2.1
            refine ⟨Nat.le_refl _, ?_, ?_, TL.out.2⟩
            · rw [List.length_append, List.length_singleton]
              simp only [Tr.ht] at h1
              omega
            · exact h4.2)
          have MS : Hid (tr.ht < gk) := hid (by
            have h1 := HP2.out.1
            simp only [Tr.ht] at h1
            omega)
          have NN := HN.out
          have ys' : S ≤ w3.drew.heap.size := ys
          have v2 : w3.cell? ⟨b1, 0, none⟩ = some (.slice R n c') := cell_at y1 rfl
          clear dd0 hq x0 x1 xB xL HBit y0 y1 yL yB NN HP2 HW BB ys HQ
          go_wp2
          refine start_ (n := 8) (S := fun w' => w'.cell? ⟨b1, 0, none⟩ = some (.slice R n c')) (ds := [7]) #[false, false, false, false, false, false, false, false] (by kernel_rfl) rfl rfl (v2) (fun hHeld => ?_)
          refine pure_ (i := 0) (N := some 32) (v := ?_) (a' := ?_) #[true, false, false, false, false, false, false, false] rfl rfl (by kernel_rfl) (fun _ _ _ h => h) (Or.inl ⟨by rfl, ?_⟩) ?_ ?_
          rotate_left
          · intro w'
            go_simp
            with_reducible rfl
          rotate_left
          · simp only [Act.put, List.setIfInBounds_toArray, List.set_cons_zero, List.set_cons_succ, i64_w, i32_w]
            rfl
          refine pure_ (i := 2) (N := some 34) (v := ?_) (a' := ?_) #[true, false, true, false, false, false, false, false] rfl rfl (by kernel_rfl) (fun _ _ _ h => h) (Or.inl ⟨by rfl, ?_⟩) ?_ ?_
          rotate_left
          · intro w'
            go_simp
            with_reducible rfl
          rotate_left
          · simp only [Act.put, List.setIfInBounds_toArray, List.set_cons_zero, List.set_cons_succ, i64_w, i32_w]
            rfl
          refine take_ (i := 1) (N := some 33) (v := ?_) (a' := ?_) #[true, true, true, false, false, false, false, false] rfl rfl (by kernel_rfl) (fun _ _ _ h => h) (Or.inl ⟨by rfl, ?_⟩) hHeld ?_ ?_
          rotate_left
          · intro w' s0
            go_simp
            with_reducible rfl
          rotate_left
          · simp only [Act.put, List.setIfInBounds_toArray, List.set_cons_zero, List.set_cons_succ, i64_w, i32_w]
            rfl
          refine one_ (i := 3) (N := some 35) #[true, true, true, true, false, false, false, false] rfl rfl (by kernel_rfl) (by decide) (fun K hK => ?_)
          refine goes_ Tryd.func32 (by kernel_rfl) rfl #[vl] (by rfl) rfl rfl (by simp only [List.map_toArray, List.map_cons, List.map_nil]; rfl) ?_
          with_reducible refine (HD.out).mono ?_
          rintro e' w1 ⟨rfl, d1⟩
          refine ⟨_, rfl, ?_⟩
          have y0 := below_heap d1 GG.out.1
          have y1 := below_heap d1 GG.out.2.1
          have yL := GG.out.2.2.2.below d1
          have yB : Below S w w1 := GG.out.2.2.1.trans (d1.mono ys')
          have ys : S ≤ w1.heap.size := by have := lt_of_block y0; omega
          refine hK.out _ _ ((cell_at y1 rfl)) (fun hHeld => ?_)
          clear hK K
          refine norm_ (a' := ?_) ?_ ?_
          rotate_left
          · show Act.put _ (some 35) _ = _
            simp only [Act.put, List.setIfInBounds_toArray, List.set_cons_zero, List.set_cons_succ, i64_w, i32_w]
            rfl
          refine one_ (i := 4) (N := some 36) #[true, true, true, true, true, false, false, false] rfl rfl (by kernel_rfl) (by decide) (fun K hK => ?_)
          refine value_ (w1 := ?_) (v := ?_) (by rfl) rfl ?_ ?_
          rotate_left 2
          · go_simp
            constructor
            · rfl
            · rfl
          have al0 := below_alloc (Below.refl _ w1) (.cells #[.string q] 9)
          refine hK.out _ _ ((below_cell al0 hHeld)) (fun hHeld => ?_)
          clear hK K
          refine norm_ (a' := ?_) ?_ ?_
          rotate_left
          · show Act.put _ (some 36) _ = _
            simp only [Act.put, List.setIfInBounds_toArray, List.set_cons_zero, List.set_cons_succ, i64_w, i32_w]
            rfl
          refine one_ (i := 5) (N := some 37) #[true, true, true, true, true, true, false, false] rfl rfl (by kernel_rfl) (by decide) (fun K hK => ?_)
          refine step_appT rfl (.tmp 33) (.tmp 36) rfl S (Nat.le_trans ys al0.size) R c' n l rfl HN.out (yL.below al0) _ q rfl (cell_at (heap_alloc_new _ _) rfl) (by omega) ?_
          intro R2 c2 w2 m1 m2 m3
          have e1 := (yL.below al0).beside HN.out m2 (below_heap al0 y1) (by decide)
          have e0 := (yL.below al0).beside HN.out m2 (below_heap al0 y0) (by decide)
          have eX := (yL.below al0).grew HN.out m2 ((Below.refl S w1).alloc ys _) (Nat.le_trans ys al0.size)
          have d0 := cell_at e1 (i := 0) (v := .slice R n c') rfl
          have d1 := free_at e1 0
          refine hK.out _ _ (d0) (fun hHeld => ?_)
          clear hK K
          refine norm_ (a' := ?_) ?_ ?_
          rotate_left
          · show Act.put _ (some 37) _ = _
            simp only [Act.put, List.setIfInBounds_toArray, List.set_cons_zero, List.set_cons_succ, i64_w, i32_w]
            rfl
          refine pure_ (i := 6) (N := some 38) (v := ?_) (a' := ?_) #[true, true, true, true, true, true, true, false] rfl rfl (by kernel_rfl) (fun _ _ _ h => h) (Or.inl ⟨by rfl, ?_⟩) ?_ ?_
          rotate_left
          · intro w'
            go_simp
            with_reducible rfl
          rotate_left
          · simp only [Act.put, List.setIfInBounds_toArray, List.set_cons_zero, List.set_cons_succ, i64_w, i32_w]
            rfl
          refine last_ (i := 7) (N := none) #[true, true, true, true, true, true, true, true] rfl rfl (by kernel_rfl) (by decide) (fun K hK => ?_)
          refine skip_ (w1 := ?_) (by rfl) rfl ?_ ?_
          rotate_left
          · go_simp
            rfl
          refine hK.out _ _ ?_
          clear hK K
          refine done_ (by kernel_rfl) ?_
          have e1' : (w2.setCell ⟨b1, 0, none⟩ (.slice R2 (n + 1) c2)).heap[b1]? = some (.cells #[.slice R2 (n + 1) c2, .int .u8 0, .string ⟨#[]⟩, .slice none 0 0] 30 (0, 0)) := by rw [heap_set e1]; rfl
          have e0' := (keeps_one w2 b1 0 (.slice R2 (n + 1) c2)).heap e0 (by omega)
          have eL' := m1.far (keeps_one w2 b1 0 (.slice R2 (n + 1) c2)) e1 (by decide)
          have eX' := eX.setCell (p := ⟨b1, 0, none⟩) (show S ≤ b1 by omega) (.slice R2 (n + 1) c2)
          have eB' := yB.trans eX'
          have LN : (l ++ [q]).length = n + 1 := by rw [List.length_append, List.length_singleton, HN.out]
          clear m1 m2 m3 e1 e0 eX eX' d0 al0 GG v2 y0 y1 yL yB ys HD
          generalize w2.setCell ⟨b1, 0, none⟩ (.slice R2 (n + 1) c2) = w5 at *
          have LNH := hid LN
          clear LN
          go_wp2
          go_roundg (tr.ht)
          case rel => exact ⟨tr, n + 1, l ++ [q], R2, c2, LNH.out, NX, NP, eL', e0', e1', eB'⟩
          case measure => exact MS.out
  case rest =>
    clear L0 g0 g1 hB N0 W0 P0 TV HH
    obtain ⟨t, l, R, c', hnn, HW, HX, hL, hl, g0, g1, hB⟩ := hcut
    obtain ⟨n, hn⟩ : ∃ n, n = l.length := ⟨_, rfl⟩
    rw [← hn] at g1 hl
    have HN := hid hn
    clear hn
    have T1 := hid (HX.out.2.move hB)
    have sB : S ≤ wc.heap.size := by have := lt_of_block g0; omega
    by_cases hlf : isLeaf t = true
    · obtain ⟨y, rfl⟩ : ∃ y, t = .leaf y := by cases t with | leaf y => exact ⟨y, rfl⟩ | nil => cases hlf | node a b => cases hlf
      have HL0 := leafOf_leaf (show y.row.length ≤ 1000000 from HX.out.1) T1.out
      obtain ⟨m, hm⟩ : ∃ m, m = y.row.length := ⟨_, rfl⟩
      rw [← hm] at HL0
      have HL := hid HL0
      have HM := hid hm
      clear HL0 hm hlf hnn
      obtain ⟨yk, hyk⟩ : ∃ k, k = y.key := ⟨_, rfl⟩
      rw [← hyk] at HL
      have HY := hid hyk
      clear hyk
      go_wp2_with fail
      refine HL.out.mono ?_
      rintro e w3 ⟨A, d, rfl, r3, b3⟩
      have y0 := below_heap b3 g0
      have y1 := below_heap b3 g1
      have yL := hL.below b3
      have yB : Below S w w3 := hB.trans (b3.mono sB)
      have yr : Row w3 S A d y.row := r3.lower sB
      have P0 := show buildT T key = endT l (.leaf y) key by unfold buildT; rw [HW.out]
      clear g0 g1 hL hB b3 r3 HL sB T1
      by_cases hk : yk = key
      · have tk : (yk.toList == key.toList) = true := by rw [hk]; simp
        have PB := hid (show buildT T key = ⟨l, 1, ⟨#[]⟩, y.row⟩ by rw [P0]; unfold endT; simp only; rw [if_pos (HY.out.symm.trans hk)])
        clear P0 hk
        obtain ⟨p0, p1, p2, p3, p0', p1', p2', p3'⟩ := four y1
        have x01 : (w3.setCell ⟨b1, 1, none⟩ (.int .u8 1)).heap[b1]? = some (.cells #[.slice R n c', .int .u8 1, .string ⟨#[]⟩, .slice none 0 0] 30 (0, 0)) := by rw [heap_set y1]; rfl
        have x00 := (keeps_one w3 b1 1 (.int .u8 1)).heap y0 (by omega)
        have x0L := yL.far (keeps_one w3 b1 1 (.int .u8 1)) y1 (by decide)
        have x0r := yr.far (keeps_one w3 b1 1 (.int .u8 1)) y1 (by decide)
        have x0B := yB.setCell (p := ⟨b1, 1, none⟩) (show S ≤ b1 by omega) (.int .u8 1)
        clear y0 y1 yL yr yB
        have x11 : ((w3.setCell ⟨b1, 1, none⟩ (.int .u8 1)).setCell ⟨b1, 3, none⟩ (.slice A m d)).heap[b1]? = some (.cells #[.slice R n c', .int .u8 1, .string ⟨#[]⟩, .slice A m d] 30 (0, 0)) := by rw [heap_set x01]; rfl
        have x10 := (keeps_one (w3.setCell ⟨b1, 1, none⟩ (.int .u8 1)) b1 3 (.slice A m d)).heap x00 (by omega)
        have x1L := x0L.far (keeps_one (w3.setCell ⟨b1, 1, none⟩ (.int .u8 1)) b1 3 (.slice A m d)) x01 (by decide)
        have x1r := x0r.far (keeps_one (w3.setCell ⟨b1, 1, none⟩ (.int .u8 1)) b1 3 (.slice A m d)) x01 (by decide)
        have x1B := x0B.setCell (p := ⟨b1, 3, none⟩) (show S ≤ b1 by omega) (.slice A m d)
        clear x00 x01 x0L x0r x0B
        go_upto_region 14 with fail
        generalize ((w3.setCell ⟨b1, 1, none⟩ (.int .u8 1)).setCell ⟨b1, 3, none⟩ (.slice A m d)) = X at *
        clear p0 p1 p2 p3 p0' p1' p2' p3'
        obtain ⟨u0, u1, u2, u3, u0', u1', u2', u3'⟩ := four x10
        obtain ⟨p0, p1, p2, p3, p0', p1', p2', p3'⟩ := four x11
        have E := hid (built_end (P := ⟨l, 1, ⟨#[]⟩, y.row⟩) HS.out x10 x1L x1r HN.out.symm HM.out.symm rfl rfl x1B)
        have G := hid (set4_heap (a := .slice R n c') (b := .int .u8 1) (c := .string ⟨#[]⟩) (d := .slice A m d) x10)
        clear x10 x11 x1L x1r x1B
        go_wp2
        refine bodyPost_ret (ret_cell_one rfl rfl G.out Tryd.underlying30 rfl infPP) rfl ?_
        rw [PB.out]
        exact E.out
      · have tk : (yk.toList == key.toList) = false := by rw [str_beq]; simp [hk]
        have PB := hid (show buildT T key = ⟨l, 2, yk, y.row⟩ by rw [P0]; unfold endT; simp only; rw [if_neg (fun h => hk (HY.out.trans h)), HY.out])
        clear P0 hk
        obtain ⟨p0, p1, p2, p3, p0', p1', p2', p3'⟩ := four y1
        have x01 : (w3.setCell ⟨b1, 1, none⟩ (.int .u8 2)).heap[b1]? = some (.cells #[.slice R n c', .int .u8 2, .string ⟨#[]⟩, .slice none 0 0] 30 (0, 0)) := by rw [heap_set y1]; rfl
        have x00 := (keeps_one w3 b1 1 (.int .u8 2)).heap y0 (by omega)
        have x0L := yL.far (keeps_one w3 b1 1 (.int .u8 2)) y1 (by decide)
        have x0r := yr.far (keeps_one w3 b1 1 (.int .u8 2)) y1 (by decide)
        have x0B := yB.setCell (p := ⟨b1, 1, none⟩) (show S ≤ b1 by omega) (.int .u8 2)
        clear y0 y1 yL yr yB
        have x11 : ((w3.setCell ⟨b1, 1, none⟩ (.int .u8 2)).setCell ⟨b1, 2, none⟩ (.string yk)).heap[b1]? = some (.cells #[.slice R n c', .int .u8 2, .string yk, .slice none 0 0] 30 (0, 0)) := by rw [heap_set x01]; rfl
        have x10 := (keeps_one (w3.setCell ⟨b1, 1, none⟩ (.int .u8 2)) b1 2 (.string yk)).heap x00 (by omega)
        have x1L := x0L.far (keeps_one (w3.setCell ⟨b1, 1, none⟩ (.int .u8 2)) b1 2 (.string yk)) x01 (by decide)
        have x1r := x0r.far (keeps_one (w3.setCell ⟨b1, 1, none⟩ (.int .u8 2)) b1 2 (.string yk)) x01 (by decide)
        have x1B := x0B.setCell (p := ⟨b1, 2, none⟩) (show S ≤ b1 by omega) (.string yk)
        clear x00 x01 x0L x0r x0B
        have x21 : (((w3.setCell ⟨b1, 1, none⟩ (.int .u8 2)).setCell ⟨b1, 2, none⟩ (.string yk)).setCell ⟨b1, 3, none⟩ (.slice A m d)).heap[b1]? = some (.cells #[.slice R n c', .int .u8 2, .string yk, .slice A m d] 30 (0, 0)) := by rw [heap_set x11]; rfl
        have x20 := (keeps_one ((w3.setCell ⟨b1, 1, none⟩ (.int .u8 2)).setCell ⟨b1, 2, none⟩ (.string yk)) b1 3 (.slice A m d)).heap x10 (by omega)
        have x2L := x1L.far (keeps_one ((w3.setCell ⟨b1, 1, none⟩ (.int .u8 2)).setCell ⟨b1, 2, none⟩ (.string yk)) b1 3 (.slice A m d)) x11 (by decide)
        have x2r := x1r.far (keeps_one ((w3.setCell ⟨b1, 1, none⟩ (.int .u8 2)).setCell ⟨b1, 2, none⟩ (.string yk)) b1 3 (.slice A m d)) x11 (by decide)
        have x2B := x1B.setCell (p := ⟨b1, 3, none⟩) (show S ≤ b1 by omega) (.slice A m d)
        clear x10 x11 x1L x1r x1B
        go_upto_region 14 with fail
        generalize (((w3.setCell ⟨b1, 1, none⟩ (.int .u8 2)).setCell ⟨b1, 2, none⟩ (.string yk)).setCell ⟨b1, 3, none⟩ (.slice A m d)) = X at *
        clear p0 p1 p2 p3 p0' p1' p2' p3'
        obtain ⟨u0, u1, u2, u3, u0', u1', u2', u3'⟩ := four x20
        obtain ⟨p0, p1, p2, p3, p0', p1', p2', p3'⟩ := four x21
        have E := hid (built_end (P := ⟨l, 2, yk, y.row⟩) HS.out x20 x2L x2r HN.out.symm HM.out.symm rfl rfl x2B)
        have G := hid (set4_heap (a := .slice R n c') (b := .int .u8 2) (c := .string yk) (d := .slice A m d) x20)
        clear x20 x21 x2L x2r x2B
        go_wp2
        refine bodyPost_ret (ret_cell_one rfl rfl G.out Tryd.underlying30 rfl infPP) rfl ?_
        rw [PB.out]
        exact E.out
    · have hlf' : isLeaf t = false := by simpa using hlf
      have HL := hid (leafOf_none hlf' T1.out)
      have PB := hid (show buildT T key = ⟨l, 0, ⟨#[]⟩, []⟩ by
        unfold buildT
        rw [HW.out]
        cases t with
        | leaf y => cases hlf'
        | nil => rfl
        | node a b => rfl)
      clear hlf hlf' hnn T1 sB
      go_wp2_with fail
      refine HL.out.mono ?_
      rintro e w3 ⟨rfl, rfl⟩
      clear HL
      have rN := Row.nil wc S
      obtain ⟨u0, u1, u2, u3, u0', u1', u2', u3'⟩ := four g0
      obtain ⟨p0, p1, p2, p3, p0', p1', p2', p3'⟩ := four g1
      have E := hid (built_end (P := ⟨l, 0, ⟨#[]⟩, []⟩) HS.out g0 hL rN HN.out.symm rfl rfl rfl hB)
      have G := hid (set4_heap (a := .slice R n c') (b := .int .u8 0) (c := .string ⟨#[]⟩) (d := .slice none 0 0) g0)
      clear g0 g1 hL hB rN
      go_wp2
      refine bodyPost_ret (ret_cell_one rfl rfl G.out Tryd.underlying30 rfl infPP) rfl ?_
      rw [PB.out]
      exact E.out
end Go.Proofs.YtmbgfjcmdolggaaDoor
