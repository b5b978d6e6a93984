/- The walks of put and del, by the depth; of Put, Del. -/
import Derived.Test.YtnidgljkbmceaaaGreatDoorG15
import Derived.Test.YtnidgljkbmceaaaGreatDoorG13
import Derived.Test.YtnidgljkbmceaaaGreatDoorPn
set_option linter.unusedVariables false
set_option linter.unusedSimpArgs false
namespace Go.Proofs.YtnidgljkbmceaaaGreatDoor
open Go.RowKit PrintLast
theorem putI_same {y x : Itm} (h : y.key = x.key) : putI [y] x = [x] := by unfold putI; rw [List.filter_cons, if_neg (by simp [h])]; rfl
theorem putI_other {y x : Itm} (h : y.key ≠ x.key) : putI [y] x = [x, y] := by unfold putI; rw [List.filter_cons, if_pos (by simp [h])]; rfl
theorem putI_length (l : List Itm) (x : Itm) : (putI l x).length ≤ l.length + 1 := by
  unfold putI
  rw [List.length_cons]
  have := List.length_filter_le (fun y : Itm => decide (y.key ≠ x.key)) l
  omega
theorem put_one {w : World} (hT : Table w) {v vx : Value} {y x : Itm} {f d : Nat} (hv : Tree w v (treeF f [y])) (hx : Tree w vx (.leaf x)) (hd : d + f = 256) (hp : Good f (putI [y] x)) (ht : Tells [y] x.key) :
    Calls Tryz.prog 171 #[v, vx, .int .i64 (d : Int)] w (Grew w (treeF f (putI [y] x))) := by
  rw [treeF_one] at hv
  have hs : [x, y].Perm [y, x] := List.Perm.swap y x []
  refine (put_leaf hT hv hx hd (fun h => ?_)).mono fun e w' h => h.cast ?_
  · have hk : y.key ≠ x.key := fun e => h (by rw [e])
    rw [putI_other hk] at hp
    exact hp.perm hs
  · by_cases h : pathK y.key = pathK x.key
    · rw [if_pos h, putI_same (ht y (by simp) h), treeF_one]
    · have hk : y.key ≠ x.key := fun e => h (by rw [e])
      rw [putI_other hk] at hp ⊢
      rw [if_neg h, treeF_perm f hp (by omega) hs]
theorem put_none {w : World} {v vx : Value} {x : Itm} {f : Nat} {d : Int} (hv : Tree w v (treeF f [])) (hx : Tree w vx (.leaf x)) :
    Calls Tryz.prog 171 #[v, vx, .int .i64 d] w (Grew w (treeF f (putI [] x))) := by
  rw [treeF_nil] at hv
  cases hv
  refine put_nil.mono fun e w' ⟨h1, h2⟩ => ⟨vx, h1, ?_, h2⟩
  show Tree w' vx (treeF f [x])
  rw [treeF_one]
  exact Tree.below hx h2
theorem put_walk (f : Nat) : ∀ (w : World) (v vx : Value) (l : List Itm) (x : Itm) (d : Nat), Table w → Tree w v (treeF f l) → Tree w vx (.leaf x) → Good f l → Good f (putI l x) → Tells l x.key → d + f = 256 → l.length ≤ 1000000 →
    Calls Tryz.prog 171 #[v, vx, .int .i64 (d : Int)] w (Grew w (treeF f (putI l x))) := by
  induction f with
  | zero =>
    intro w v vx l x d hT hv hx hg hp ht hd _
    match l, hg.few with
    | [], _ => exact put_none hv hx
    | [y], _ => exact put_one hT hv hx hd hp ht
  | succ f ih =>
    intro w v vx l x d hT hv hx hg hp ht hd hl
    by_cases h2 : 2 ≤ l.length
    · have hdf : 255 - f = d := by omega
      rw [treeF_big f l h2, hdf] at hv
      have J := join_tree hp (by omega)
      have g0 := hg.half 0 (by omega)
      have g1 := hg.half 1 (by omega)
      have p0 := hp.half 0 (by omega)
      have p1 := hp.half 1 (by omega)
      rw [hdf] at J g0 g1 p0 p1
      have L0 := halfI_length_le l d 0
      have L1 := halfI_length_le l d 1
      have F0 := fine_tree (show f ≤ 256 by omega) g0 (by omega)
      have F1 := fine_tree (show f ≤ 256 by omega) g1 (by omega)
      rcases btK_two x.key d with hb | hb
      · have e1 : halfI (putI l x) d 1 = halfI l d 1 := half_put_other (by rw [hb]; decide)
        rw [half_put_same hb] at J p0
        rw [e1] at J
        have FX := fine_tree (show f ≤ 256 by omega) p0 (by have := putI_length (halfI l d 0) x; omega)
        refine (put_node hT hv hx hd F0 F1 FX (fun w' v' h1 h2 h3 => ?_)).mono fun e w' h => h.cast ?_
        · rw [if_pos hb] at h2
          exact ih w' v' vx _ x (d + 1) h1 h2 h3 g0 p0 (fun y hy => ht y (half_mem.1 hy).1) (by omega) (by omega)
        · rw [if_pos hb]; exact J
      · have e0 : halfI (putI l x) d 0 = halfI l d 0 := half_put_other (by rw [hb]; decide)
        rw [half_put_same hb] at J p1
        rw [e0] at J
        have FX := fine_tree (show f ≤ 256 by omega) p1 (by have := putI_length (halfI l d 1) x; omega)
        refine (put_node hT hv hx hd F0 F1 FX (fun w' v' h1 h2 h3 => ?_)).mono fun e w' h => h.cast ?_
        · rw [if_neg (by rw [hb]; decide)] at h2
          exact ih w' v' vx _ x (d + 1) h1 h2 h3 g1 p1 (fun y hy => ht y (half_mem.1 hy).1) (by omega) (by omega)
        · rw [if_neg (by rw [hb]; decide)]; exact J
    · match l, h2 with
      | [], _ => exact put_none hv hx
      | [y], _ => exact put_one hT hv hx hd hp ht
      | x :: y :: l, h2 => simp at h2
set_option maxHeartbeats 3200000 in
theorem Put_any {w : World} (hT : Table w) {v : Value} {l : List Itm} {key : ByteArray} {A : Option Addr} {c n : Nat} {row : List UInt8} (hv : Tree w v (treeF 256 l)) (hk : key.size ≤ 1000000) (hn : row.length = n) (hr : n ≤ 1000000) (hA : BSA w A c row) (hg : Good 256 l) (hp : Good 256 (putI l ⟨key, row⟩)) (ht : Tells l key) (hl : l.length ≤ 1000000) :
    Calls Tryz.prog 123 #[v, .string key, .slice A n c] w (Grew w (treeF 256 (putI l ⟨key, row⟩))) := by
  have H := hid (leaf_new hT hk hn hr hA)
  have TT := hid hT
  have VV := hid hv
  have GG := hid (And.intro hg (And.intro hp ht))
  clear hT hv hA hn hg hp ht
  go_enter Tryz.func123, Tryz.ntmps123
  go_wp2_with fail
  refine H.out.mono ?_
  rintro e w1 ⟨v1, rfl, t1, b1⟩
  have P0 : Calls Tryz.prog 171 #[v, v1, .int .i64 0] w1 (Grew w1 (treeF 256 (putI l ⟨key, row⟩))) := put_walk 256 w1 v v1 l ⟨key, row⟩ 0 (TT.out.below b1) (Tree.below VV.out b1) t1 GG.out.1 GG.out.2.1 GG.out.2.2 (by omega) hl
  have P := hid P0
  clear P0 t1 H
  go_wp2_with fail
  refine P.out.mono ?_
  rintro e w2 ⟨v2, rfl, t2, b2⟩
  have B2 := below_then b1 b2
  go_wp2
  go_ret
  exact ⟨v2, rfl, t2, B2⟩
end Go.Proofs.YtnidgljkbmceaaaGreatDoor
namespace Go.Proofs.YtnidgljkbmceaaaGreatDoor
open Go.RowKit PrintLast Go.Maps Go.MapKept
def LeafK (w : World) (v : Value) (k : ByteArray) (row : List UInt8) (lo : Nat) : Prop := ∃ g A c, v = .pointer (some ⟨g, 0, none⟩) ∧ w.heap[g]? = some (.cells (ncells (.pointer none) (.pointer none) (pathS k) k (.slice A row.length c) (digS (.leaf ⟨k, row⟩)) 1) 299 (0, 0)) ∧ OwnB w (.slice A row.length c) row ∧ ∀ b, (Value.slice A row.length c).ownBlock = some b → lo ≤ b
theorem LeafK.keeps {w w' : World} {ts : List TypeId} {ms rs : List Nat} {v : Value} {k : ByteArray} {row : List UInt8} {lo : Nat} (h : LeafK w v k row lo) (hk : KT ts ms rs w w') (ht : 299 ∉ ts ∧ 5 ∉ ts) (hr : ∀ b ∈ rs, b < lo) : LeafK w' v k row lo := by
  obtain ⟨g, A, c, h1, h2, h3, h4⟩ := h
  exact ⟨g, A, c, h1, hk.cells h2 ⟨ht.1, by decide⟩, h3.keeps hk ht.2 (fun b e hb => by have := h4 b e; have := hr b hb; omega), h4⟩
theorem LeafK.below {w w' : World} {v : Value} {k : ByteArray} {row : List UInt8} {lo : Nat} (h : LeafK w v k row lo) (hb : Below w.heap.size w w') : LeafK w' v k row lo := h.keeps (KT.of_below (ts := []) (ms := []) (rs := []) hb) (by decide) (fun _ h => by cases h)
theorem LeafK.tree {w : World} {v : Value} {k : ByteArray} {row : List UInt8} {lo : Nat} (h : LeafK w v k row lo) : Tree w v (.leaf ⟨k, row⟩) := by
  obtain ⟨g, A, c, h1, h2, h3, h4⟩ := h
  have h5 : Row w 0 A c row := h3
  refine ⟨g, A, c, h1, lt_of_block h2, h2, h5.bsa, fun h0 => ?_⟩
  obtain ⟨gb, rfl⟩ := h5.place h0
  obtain ⟨cur, hg, _, _⟩ := h5.heap
  exact ⟨gb, 0, rfl, lt_of_block hg⟩
set_option maxHeartbeats 3200000 in
theorem leaf_own {w : World} (hT : Table w) {key : ByteArray} {A : Option Addr} {c n : Nat} {row : List UInt8} (hk : key.size ≤ 1000000) (hn : row.length = n) (hr : n ≤ 1000000) (hA : BSA w A c row) :
    Calls Tryz.prog 172 #[.string key, .slice A n c] w fun e w' => ∃ v, e = .returned v ∧ LeafK w' v key row w.heap.size ∧ Below w.heap.size w w' := by
  have ks : key.size ≤ maxLen := by unfold maxLen; omega
  have TT := hid hT
  have AA := hid hA
  have HN := hid hn
  clear hT hA hn
  go_enter Tryz.func172, Tryz.ntmps172
  go_wp2_with (refine wpList_conv rfl (.tmp 5) rfl key rfl ks ?_)
  intro g1 c1 w1 _ q1 b1
  replace TT := hid (TT.out.below b1)
  replace AA := hid (AA.out.below b1)
  have BB := hid b1
  have H := hid (sumK TT.out hk q1)
  clear b1 q1 ks
  go_wp2_with fail
  refine H.out.mono ?_
  rintro e w2 ⟨rfl, b2⟩
  replace TT := hid (TT.out.below b2)
  replace AA := hid (AA.out.below b2)
  replace BB := hid (below_then BB.out b2)
  have BZ := hid BB.out
  have H := hid (clone_gave HN.out AA.out (by rw [HN.out]; omega))
  clear b2
  go_wp2_with fail
  refine H.out.mono ?_
  rintro e w3 ⟨A3, c3, rfl, r3, b3⟩
  rw [HN.out]
  replace TT := hid (TT.out.below b3)
  replace AA := hid (AA.out.below b3)
  replace BB := hid (below_then BB.out b3)
  have RR := hid r3
  have H0 := leaf_any TT.out hk (by rw [HN.out]; exact hr) AA.out
  rw [HN.out] at H0
  have H := hid H0
  clear b3 r3 H0
  go_wp2_with fail
  refine H.out.mono ?_
  rintro e w4 ⟨rfl, b4⟩
  replace RR := hid (RR.out.below b4)
  replace BB := hid (below_then BB.out b4)
  obtain ⟨P, hP⟩ : ∃ P, P = pathS key := ⟨_, rfl⟩
  obtain ⟨D, hD⟩ : ∃ D, D = dig (leafB key.data.toList row) := ⟨_, rfl⟩
  rw [← hP, ← hD]
  have al := below_alloc (Below.refl _ w4) (.cells #[.pointer none, .pointer none, .string P, .string key, .slice A3 n c3, .string D, .int .i64 1] 299)
  have gb := heap_alloc_new w4 (.cells #[.pointer none, .pointer none, .string P, .string key, .slice A3 n c3, .string D, .int .i64 1] 299)
  have R5 := RR.out.below al
  have FIN : Hid (LeafK (w4.alloc (.cells #[.pointer none, .pointer none, .string P, .string key, .slice A3 n c3, .string D, .int .i64 1] 299)) (.pointer (some ⟨w4.heap.size, 0, none⟩)) key row w.heap.size) := hid (by
    refine ⟨w4.heap.size, A3, c3, rfl, ?_, ?_, fun b e => ?_⟩
    · rw [gb, hP, hD]
      show _ = some (Obj.cells (ncells _ _ _ _ (.slice A3 row.length c3) _ _) _ _)
      rw [HN.out]
      rfl
    · exact R5.lower (Nat.zero_le _)
    · have h1 := (R5.lt b e).1
      have h2 := BZ.out.size
      omega)
  have B5 := hid (below_then BB.out al)
  clear al gb R5 hP hD H b4
  go_wp2
  go_ret
  exact ⟨_, rfl, FIN.out, B5.out⟩
set_option maxHeartbeats 1600000 in
theorem put_first {w : World} (hT : Table w) {key : ByteArray} {A : Option Addr} {c n : Nat} {row : List UInt8} (hk : key.size ≤ 1000000) (hn : row.length = n) (hr : n ≤ 1000000) (hA : BSA w A c row) :
    Calls Tryz.prog 123 #[.pointer none, .string key, .slice A n c] w fun e w' => ∃ v, e = .returned v ∧ LeafK w' v key row w.heap.size ∧ Below w.heap.size w w' := by
  have H := hid (leaf_own hT hk hn hr hA)
  clear hT hA hn
  go_enter Tryz.func123, Tryz.ntmps123
  go_wp2_with fail
  refine H.out.mono ?_
  rintro e w1 ⟨v1, rfl, t1, b1⟩
  have T1 := hid (And.intro t1 b1)
  have P := hid (put_nil (w := w1) (vx := v1) (d := 0))
  clear H t1 b1
  go_wp2_with fail
  refine P.out.mono ?_
  rintro e w2 ⟨rfl, b2⟩
  have FF := hid (And.intro (T1.out.1.below b2) (below_then T1.out.2 b2))
  clear P b2 T1
  go_wp2
  go_ret
  exact ⟨v1, rfl, FF.out⟩
theorem infoS : (Tryz.prog.info? 89).map (fun i => (i.zero, i.size, i.bytes)) = some (some (.agg #[.string ⟨#[]⟩, .string ⟨#[]⟩, .string ⟨#[]⟩, .pointer none]), 4, 56) := by kernel_rfl
def StAt (w : World) (R ns rc : Nat) (tv : Option Addr) : Prop := ∃ (xs : List Value) (d l s : ByteArray) (q : Nat), w.ownsRow 0 89 4 (.slice (some ⟨R, 0, none⟩) ns rc) ns xs ∧ ns = q + 1 ∧ ns ≤ 5 ∧ xs[q * 4]? = some (.string d) ∧ xs[q * 4 + 1]? = some (.string l) ∧ xs[q * 4 + 2]? = some (.string s) ∧ xs[q * 4 + 3]? = some (.pointer tv) ∧ d.size ≤ 1000 ∧ ∀ u ∈ xs, u.oneCell' = true
theorem StAt.keeps {w w' : World} {ts : List TypeId} {ms rs : List Nat} {R ns rc : Nat} {tv : Option Addr} (h : StAt w R ns rc tv) (hk : KT ts ms rs w w') (ht : 89 ∉ ts) : StAt w' R ns rc tv := by
  obtain ⟨xs, d, l, s, q, h1, h2⟩ := h
  exact ⟨xs, d, l, s, q, own_keeps h1 hk ⟨ht, by decide⟩, h2⟩
theorem StAt.below {w w' : World} {R ns rc : Nat} {tv : Option Addr} (h : StAt w R ns rc tv) (hb : Below w.heap.size w w') : StAt w' R ns rc tv := h.keeps (KT.of_below (ts := []) (ms := []) (rs := []) hb) (by decide)
theorem StAt.block {w : World} {R ns rc : Nat} {tv : Option Addr} (h : StAt w R ns rc tv) : ∃ cur, w.heap[R]? = some (.cells cur 89 (0, 0)) := by
  obtain ⟨xs, d, l, s, q, h1, _⟩ := h
  exact own_typed h1 rfl
theorem row_news4 {w : World} {base e g m c n : Nat} {xs : List Value} (h : w.ownsRow base e 4 (.slice (some ⟨g, 0, none⟩) m c) n xs) (j : Nat) (u : Value) (hu : xs[j]? = some u) : w.cell? ⟨g, j, none⟩ = some u := by
  have := h.cells (g := g) rfl j u hu
  rwa [add_plain] at this
theorem own_cap4 {w : World} {base e n : Nat} {g m c : Nat} {xs : List Value} (h : w.ownsRow base e 4 (.slice (some ⟨g, 0, none⟩) m c) n xs) (h0 : 0 < n) : n ≤ c ∧ c ≤ 9223372036854775807 := by
  rcases h.2 with ⟨_, h1⟩ | ⟨g', cap, cur, e', _, _, h1, h2, _⟩
  · omega
  · cases e'; unfold maxLen at h2; exact ⟨h1, by omega⟩
theorem eqlS (w : World) (a : Option Addr) (n c n' c' : Nat) : (binOp .eql 93 (.slice a n c) (.slice none n' c')).run Tryz.prog w = .ok (.bool a.isNone) w := Lib.run_eql_slice_nil w _ _ a n c n' c' Tryz.underlying93
set_option maxHeartbeats 1600000 in
theorem clone_states {w : World} {R ns rc : Nat} {tv : Option Addr} (h : StAt w R ns rc tv) : Calls Tryz.prog 125 #[.slice (some ⟨R, 0, none⟩) ns rc] w fun e w' => ∃ R' rc', e = .returned (.slice (some ⟨R', 0, none⟩) ns rc') ∧ StAt w' R' ns rc' tv ∧ w.heap.size ≤ R' ∧ Below w.heap.size w w' := by
  obtain ⟨xs, d, l, s, q, h1, h2⟩ := h
  have q22 := @eqlS
  obtain ⟨i0, hi, hz0, hz1, hz2⟩ := info_parts infoS
  have al := below_alloc (Below.refl _ w) (.cells #[] 89)
  have h1' := below_own al h1
  have H2 := hid h2
  have H1 := hid h1'
  have hl : xs.length = ns * 4 := h1.1
  have HL := hid (And.intro hl h2.2.1)
  have ON := hid h2.2.2.2.2.2.2.2
  clear h1 h1' h2 hl al
  go_enter Tryz.func125, Tryz.ntmps125
  go_wp2_with (at_builtin; refine wpList_app rfl (.tmp 5) (.tmp 6) 93 rfl 89 i0 (.agg #[.string ⟨#[]⟩, .string ⟨#[]⟩, .string ⟨#[]⟩, .pointer none]) 4 56 Tryz.underlying93 hi hz0 hz1 hz2 rfl (by decide) _ 0 [] rfl (own_empty w 89 4) (some ⟨R, 0, none⟩) ns rc xs rfl HL.out.1 (fun e => by cases e) (fun ad e j u hu => by cases e; rw [add_plain]; exact row_news4 H1.out j u hu) ON.out (by have := HL.out.2; unfold maxLen; omega) (by have := HL.out.2; omega) ?_)
  intro A2 c2 w2 m1 m2 m3 m4
  try simp only [List.nil_append, Nat.zero_add] at m1 m3 ⊢
  obtain ⟨g, rfl⟩ := slice_of m1 (by have := H2.out.1; omega)
  have FF := hid (show StAt w2 g ns c2 tv ∧ w.heap.size ≤ g ∧ Below w.heap.size w w2 from ⟨⟨xs, d, l, s, q, m1, H2.out⟩, by
    rcases m3 with e | e
    · simp [Value.ownBlock] at e; omega
    · simp [Value.ownBlock] at e; omega, ((Below.refl _ _).alloc (Nat.le_refl _) _).grown m2 (by simp) (fun k hk => by simp [Value.ownBlock] at hk; omega)⟩)
  clear m1 m2 m3 m4 H1 H2 HL ON hi hz0 hz1 hz2
  go_wp2
  go_ret
  exact ⟨g, c2, rfl, FF.out⟩
structure Puts (tx : Nat → TxR) (n : Nat) (tv : Option Addr) (w0 : World) (TI : Nat → World → Option Addr → Prop) (TF : World → Option Addr → Prop) : Prop where
  start : TI 0 w0 tv
  low : ∀ j w w' v, TI j w v → Below w.heap.size w w' → TI j w' v
  put : ∀ j w v A c, j < n → TI j w v → Table w → Below w0.heap.size w0 w → BSA w A c (tx j).row → Calls Tryz.prog 123 #[.pointer v, .string (tx j).k, .slice A (tx j).row.length c] w fun e w' => ∃ v', e = .returned (.pointer v') ∧ TI (j + 1) w' v' ∧ Below w.heap.size w w'
  dig : ∀ w v, TI n w v → Table w → ∃ d : ByteArray, d.size ≤ 1000 ∧ ∀ w', Below w.heap.size w w' → Calls Tryz.prog 124 #[.pointer v] w' fun e w'' => e = .returned (.string d) ∧ Below w'.heap.size w' w''
  fin : ∀ w w' v, TI n w v → KT [95, 89] [] [] w w' → TF w' v
theorem KB.grown {bs : List Nat} {ts : List TypeId} {ms rs : List Nat} {a w w' : World} (h : KB bs ts ms rs a w) {row : Option Nat} (hg : w.grownBy w' row) (hr : ∀ k, row = some k → k < a.heap.size → k ∈ bs ∧ ∃ cs t fr, a.heap[k]? = some (.cells cs t fr) ∧ t ∈ ts) : KB bs ts ms rs a w' :=
  ⟨h.1.grown hg (fun k e q => by obtain ⟨_, cs, t, fr, h1, h2⟩ := hr k e q; exact ⟨_, h1, .inl h2⟩), fun B hB hm => (h.2 B hB hm).grown hg (Nat.le_trans hB h.1.size) (fun k e => by
    by_cases hlt : k < a.heap.size
    · exact hm k (hr k e hlt).1
    · omega)⟩
set_option maxRecDepth 100000 in
set_option maxHeartbeats 12800000 in
theorem lgrow_any {w : World} {L Tb tc S O R ns rc n g c N : Nat} {next : Int} {tv : Option Addr} {tx : Nat → TxR} {ws : List (ByteArray × Value)} {TI : Nat → World → Option Addr → Prop} {TF : World → Option Addr → Prop}
    (hL : w.heap[L]? = some (.cells (ledC Tb tc S O next R ns rc) 95 (0, 0))) (hSt : StAt w R ns rc tv) (h4 : ns ≤ 4) (h : BatAt w tx n g c ws) (hN : N ≤ 1000) (hT : Table w) (hP : Puts tx n tv w TI TF) :
    Calls Tryz.prog 69 #[.pointer (some ⟨L, 0, none⟩), .agg #[.int .i64 (N : Int), .slice (some ⟨g, 0, none⟩) n c]] w fun e w' => e = .returned (.tuple #[]) ∧ ∃ R' rc' tv', w'.heap[L]? = some (.cells (ledC Tb tc S O next R' (ns + 1) rc') 95 (0, 0)) ∧ StAt w' R' (ns + 1) rc' tv' ∧ TF w' tv' ∧ w.heap.size ≤ R' ∧ KB [L, R] [95, 89] [] [] w w' := by
  obtain ⟨Z, hZ⟩ : ∃ x, x = w.heap.size := ⟨_, rfl⟩
  obtain ⟨w1, hw1⟩ : ∃ x, x = w.alloc (.cells #[.int .i64 (N : Int), .slice (some ⟨g, 0, none⟩) n c] 104) := ⟨_, rfl⟩
  have b1 : Below w.heap.size w w1 := by rw [hw1]; exact below_alloc (Below.refl _ _) _
  have g1 : w1.heap[Z]? = some (.cells #[.int .i64 (N : Int), .slice (some ⟨g, 0, none⟩) n c] 104 (0, 0)) := by rw [hw1, hZ]; exact heap_alloc_new _ _
  have W1 := hid (And.intro hw1 hZ)
  have F0 := hid (And.intro hL (And.intro hSt (And.intro h (And.intro hT hP))))
  obtain ⟨xs, d, l, s, q, o1, hq, hns, x0, x1, x2, x3, hds, hone⟩ := hSt.below b1
  obtain ⟨hc1, hc2⟩ := own_cap4 o1 (by omega)
  have e4 := cell_at (below_heap b1 hL) (i := 4) (v := .slice (some ⟨R, 0, none⟩) ns rc) rfl
  have y0 := row_news4 o1 _ _ x0
  have y1 := row_news4 o1 _ _ x1
  have y2 := row_news4 o1 _ _ x2
  have y3 := row_news4 o1 _ _ x3
  have wq : wrap64 ((ns : Int) - 1) = (q : Int) := by rw [hq]; unfold wrap64; omega
  have tq : ((q : Int) < (ns : Int)) = True := by simp; omega
  have X3 := hid (And.intro hds (And.intro hq (And.intro hns (And.intro o1 hone))))
  have G1 := hid (And.intro g1 b1)
  clear hL hSt h hT hP hw1 hZ b1 g1 o1 x0 x1 x2 x3 hone hq hds
  go_enter Tryz.func69, Tryz.ntmps69
  go_upto_region 1 with fail
  rw [← W1.out.1, ← W1.out.2]
  refine start_ (n := 14) (S := fun w' => w'.cell? ⟨L, 4, none⟩ = some (.slice (some ⟨R, 0, none⟩) ns rc) ∧ w'.cell? ⟨R, q * 4, none⟩ = some (.string d) ∧ w'.cell? ⟨R, q * 4 + 1, none⟩ = some (.string l) ∧ w'.cell? ⟨R, q * 4 + 2, none⟩ = some (.string s) ∧ w'.cell? ⟨R, q * 4 + 3, none⟩ = some (.pointer tv)) (ds := [13]) (tf 14 0) (by kernel_rfl) rfl rfl ⟨e4, y0, y1, y2, y3⟩ (fun hHeld => ?_); refine pure_ (i := 0) (N := some 9) (v := ?_) (a' := ?_) (tf 14 1) rfl rfl (by kernel_rfl) (fun _ _ _ h => h) (Or.inl ⟨by rfl, ?_⟩) ?_ ?_; rotate_left; (· intro w'; go_simp; (with_reducible rfl)); rotate_left; (· simp only [pn_, wq]; rfl); refine pure_ (i := 1) (N := some 10) (v := ?_) (a' := ?_) (tf 14 3) rfl rfl (by kernel_rfl) (fun _ _ _ h => h) (Or.inl ⟨by rfl, ?_⟩) ?_ ?_; rotate_left; (· intro w'; go_simp; (with_reducible rfl)); rotate_left; (· simp only [pn_, wq]; rfl); refine pure_ (i := 2) (N := some 11) (v := ?_) (a' := ?_) (tf 14 7) rfl rfl (by kernel_rfl) (fun _ _ _ h => h) (Or.inl ⟨by rfl, ?_⟩) ?_ ?_; rotate_left; (· intro w'; go_simp; (with_reducible rfl)); rotate_left; (· simp only [pn_, wq]; rfl); refine pure_ (i := 4) (N := some 13) (v := ?_) (a' := ?_) (tf 14 23) rfl rfl (by kernel_rfl) (fun _ _ _ h => h) (Or.inl ⟨by rfl, ?_⟩) ?_ ?_; rotate_left; (· intro w'; go_simp; (with_reducible rfl)); rotate_left; (· simp only [pn_, wq]; rfl); refine pure_ (i := 5) (N := some 14) (v := ?_) (a' := ?_) (tf 14 55) rfl rfl (by kernel_rfl) (fun _ _ _ h => h) (Or.inl ⟨by rfl, ?_⟩) ?_ ?_; rotate_left; (· intro w'; go_simp; (with_reducible rfl)); rotate_left; (· simp only [pn_, wq]; rfl); refine pure_ (i := 6) (N := some 15) (v := ?_) (a' := ?_) (tf 14 119) rfl rfl (by kernel_rfl) (fun _ _ _ h => h) (Or.inl ⟨by rfl, ?_⟩) ?_ ?_; rotate_left; (· intro w'; go_simp; (with_reducible rfl)); rotate_left; (· simp only [pn_, wq]; rfl); refine take_ (i := 3) (N := some 12) (v := ?_) (a' := ?_) (tf 14 127) rfl rfl (by kernel_rfl) (fun _ _ _ h => h) (Or.inl ⟨by rfl, ?_⟩) hHeld ?_ ?_; rotate_left; (· rintro w' ⟨s0, s1, s2, s3, s4⟩; go_simp; (with_reducible rfl)); rotate_left; (· simp only [pn_, wq]; rfl); refine take_ (i := 7) (N := some 16) (v := ?_) (a' := ?_) (tf 14 255) rfl rfl (by kernel_rfl) (fun _ _ _ h => h) (Or.inl ⟨by rfl, ?_⟩) hHeld ?_ ?_; rotate_left; (· rintro w' ⟨s0, s1, s2, s3, s4⟩; go_simp; (with_reducible rfl)); rotate_left; (· simp only [pn_, wq]; rfl); refine pure_ (i := 8) (N := some 17) (v := ?_) (a' := ?_) (tf 14 511) rfl rfl (by kernel_rfl) (fun _ _ _ h => h) (Or.inl ⟨by rfl, ?_⟩) ?_ ?_; rotate_left; (· intro w'; go_simp; (with_reducible rfl)); rotate_left; (· simp only [pn_, wq]; rfl); refine pure_ (i := 9) (N := some 18) (v := ?_) (a' := ?_) (tf 14 1023) rfl rfl (by kernel_rfl) (fun _ _ _ h => h) (Or.inl ⟨by rfl, ?_⟩) ?_ ?_; rotate_left; (· intro w'; go_simp; (with_reducible rfl)); rotate_left; (· simp only [pn_, wq]; rfl); refine pure_ (i := 10) (N := some 19) (v := ?_) (a' := ?_) (tf 14 2047) rfl rfl (by kernel_rfl) (fun _ _ _ h => h) (Or.inl ⟨by rfl, ?_⟩) ?_ ?_; rotate_left; (· intro w'; go_simp; (with_reducible rfl)); rotate_left; (· simp only [pn_, wq]; rfl); refine take_ (i := 11) (N := some 20) (v := ?_) (a' := ?_) (tf 14 4095) rfl rfl (by kernel_rfl) (fun _ _ _ h => h) (Or.inl ⟨by rfl, ?_⟩) hHeld ?_ ?_; rotate_left; (· rintro w' ⟨s0, s1, s2, s3, s4⟩; go_simp; (with_reducible rfl)); rotate_left; (· simp only [pn_, wq]; rfl); refine one_ (i := 12) (N := some 4) (tf 14 8191) rfl rfl (by kernel_rfl) (by decide) (fun K hK => ?_); refine value_ (w1 := ?_) (v := ?_) (by rfl) rfl ?_ ?_; rotate_left 2; (· go_simp; constructor; (· rfl); (· rfl)); refine hK.out _ _ ⟨below_cell (below_alloc (Below.refl _ _) (.cells #[.string ⟨#[]⟩, .string ⟨#[]⟩, .string ⟨#[]⟩, .pointer none] 89)) hHeld.1, below_cell (below_alloc (Below.refl _ _) (.cells #[.string ⟨#[]⟩, .string ⟨#[]⟩, .string ⟨#[]⟩, .pointer none] 89)) hHeld.2.1, below_cell (below_alloc (Below.refl _ _) (.cells #[.string ⟨#[]⟩, .string ⟨#[]⟩, .string ⟨#[]⟩, .pointer none] 89)) hHeld.2.2.1, below_cell (below_alloc (Below.refl _ _) (.cells #[.string ⟨#[]⟩, .string ⟨#[]⟩, .string ⟨#[]⟩, .pointer none] 89)) hHeld.2.2.2.1, below_cell (below_alloc (Below.refl _ _) (.cells #[.string ⟨#[]⟩, .string ⟨#[]⟩, .string ⟨#[]⟩, .pointer none] 89)) hHeld.2.2.2.2⟩ (fun hHeld => ?_); clear hK K; refine norm_ (a' := ?_) ?_ ?_; rotate_left; (· show Act.put _ (some 4) _ = _; simp only [pn_, wq]; rfl); refine last_ (i := 13) (N := none) (tf 14 16383) rfl rfl (by kernel_rfl) (by decide) (fun K hK => ?_); refine skip_ (w1 := ?_) (by rfl) rfl ?_ ?_; rotate_left; (· go_simp; rfl); refine hK.out _ _ ?_; clear hK K; refine done_ (by kernel_rfl) ?_
  clear wq tq e4 y0 y1 y2 y3
  obtain ⟨S4, hS4⟩ : ∃ x, x = w1.heap.size := ⟨_, rfl⟩
  obtain ⟨w2, hw2⟩ : ∃ x, x = (w1.alloc (.cells #[.string d, .string l, .string s, .pointer tv] 89)).drew := ⟨_, rfl⟩
  have b2 : Below w1.heap.size w1 w2 := by rw [hw2]; exact (below_alloc (Below.refl _ _) _).drew
  have g2 : w2.heap[S4]? = some (.cells #[.string d, .string l, .string s, .pointer tv] 89 (0, 0)) := by rw [hw2, hS4]; exact heap_alloc_new _ _
  rw [← hw2, ← hS4]
  have P2 := hid (And.intro (below_then G1.out.2 b2) (And.intro g2 (below_heap b2 G1.out.1)))
  have q3 := cell_at g2 (i := 3) (v := .pointer tv) rfl
  have z1 := cell_at P2.out.2.2 (i := 1) (v := .slice (some ⟨g, 0, none⟩) n c) rfl
  obtain ⟨hd1, hd2⟩ := F0.out.2.2.1.cap
  have n1 := F0.out.2.2.1.n1
  have B12 := hid b2
  clear hw2 hS4 b2 g2 G1
  go_wp2
  go_loopw [5, 26] (fun v i wr => ∃ (j : Nat) (tp : Option Addr), j ≤ n ∧ i = .int .i64 j ∧ v = .pointer tp ∧ Hid (TI j wr tp ∧ Below w2.heap.size w2 wr)) (fun _ i _ => n - (intOf i).toNat)
  case atStart => exact ⟨0, tv, by omega, rfl, rfl, hid ⟨F0.out.2.2.2.2.low 0 w w2 tv F0.out.2.2.2.2.start P2.out.1, Below.refl _ _⟩⟩
  case round =>
    clear q3 z1
    obtain ⟨j, tp, hj, rfl, rfl, hh⟩ := hrel
    have BW := hid (below_then P2.out.1 hh.out.2)
    by_cases hlt : j < n
    · have t1 : decide ((j : Int) < (n : Int)) = true := by simp; omega
      have BA := F0.out.2.2.1.below BW.out
      obtain ⟨A1, c1, k0, k1, k2, o1⟩ := BA.at2 hlt
      obtain ⟨S8, hS8⟩ : ∃ S, S = wr.heap.size := ⟨_, rfl⟩
      obtain ⟨w8, hw8⟩ : ∃ x, x = wr.alloc (.cells #[.string (tx j).k, .slice A1 (tx j).row.length c1, .bool false] 209) := ⟨_, rfl⟩
      have b8 : Below wr.heap.size wr w8 := by rw [hw8]; exact below_alloc (Below.refl _ _) _
      have g8 : w8.heap[S8]? = some (.cells #[.string (tx j).k, .slice A1 (tx j).row.length c1, .bool false] 209 (0, 0)) := by rw [hw8, hS8]; exact heap_alloc_new _ _
      have B8 := hid (below_then BW.out b8)
      have HP := hid (F0.out.2.2.2.2.put j w8 tp A1 c1 hlt (F0.out.2.2.2.2.low j wr w8 tp hh.out.1 b8) (F0.out.2.2.2.1.below B8.out) B8.out (by
        obtain ⟨A', c', e', b'⟩ := (o1 w8 (BA.below b8)).bs
        cases e'
        exact b'))
      obtain ⟨rl, hrl⟩ : ∃ x, x = (tx j).row.length := ⟨_, rfl⟩
      obtain ⟨kk, hkk⟩ : ∃ x, x = (tx j).k := ⟨_, rfl⟩
      rw [← hrl] at k1 HP hw8 g8
      rw [← hkk] at k0 HP hw8 g8
      have W8 := hid (And.intro hw8 hS8)
      have H2 := hid (below_then hh.out.2 b8)
      have s0 := cell_at g8 (i := 0) rfl
      have s1 := cell_at g8 (i := 1) rfl
      have s2 := cell_at g8 (i := 2) rfl
      clear hw8 hS8 b8 g8 hrl hkk BA o1 hh
      go_upto_region 6 with fail
      rw [← W8.out.1, ← W8.out.2]
      clear k0 k1 k2
      go_wp2_with fail
      refine HP.out.mono ?_
      rintro e w9 ⟨v', rfl, ti, b9⟩
      have HX := hid (And.intro ti (below_then H2.out b9))
      clear HP ti b9 s0 s1 s2
      go_wp2
      go_roundw
      case rel => exact ⟨j + 1, v', by omega, by go_num, rfl, HX⟩
      case measure => simp [intOf]; omega
    · obtain rfl : j = n := by omega
      have t1 : decide ((j : Int) < (j : Int)) = false := by simp
      have TT := hid (F0.out.2.2.2.1.below BW.out)
      have TI0 := hid hh.out.1
      have Z2 := below_heap hh.out.2 P2.out.2.2
      have Q2 := hid (below_heap hh.out.2 P2.out.2.1)
      have HE := hid (encode_any (F0.out.2.2.1.below BW.out) hN)
      have z0 := cell_at Z2 (i := 0) (v := .int .i64 (N : Int)) rfl
      have z1 := cell_at Z2 (i := 1) (v := .slice (some ⟨g, 0, none⟩) j c) rfl
      have H2w := hid hh.out.2
      clear hh Z2
      go_wp2_with fail
      refine HE.out.mono ?_
      rintro e w4 ⟨A4, c4, m4, l4, rfl, hl4, hm4, o4, f4, b4⟩
      have B4 := hid (below_then BW.out b4)
      have QL := hid (And.intro (below_heap B4.out F0.out.1) (below_heap b4 Q2.out))
      obtain ⟨dd, hdd, HD0⟩ := F0.out.2.2.2.2.dig wr tp TI0.out TT.out
      obtain ⟨lk, hlk⟩ : ∃ x, x = dig (linkB d.data.toList dd.data.toList (sum256 l4)) := ⟨_, rfl⟩
      obtain ⟨sm, hsm⟩ : ∃ x, x = dig l4 := ⟨_, rfl⟩
      have O4 := hid o4
      have T4 := hid (TT.out.below b4)
      have HDg := hid (fun (wz : World) (hz : Below w4.heap.size w4 wz) => HD0 wz (below_then b4 hz))
      have BS4 := o4.bs
      obtain ⟨A', c', e', b'⟩ := BS4
      rw [hl4] at e'
      cases e'
      have HLk : Hid (∀ wz, Below w4.heap.size w4 wz → Calls Tryz.prog 57 #[.string d, .string dd, .slice A4 m4 c4] wz fun e w' => e = .returned (.string lk) ∧ Below wz.heap.size wz w') := hid (fun wz hz => by
        rw [hlk]
        subst hl4
        exact link_any (T4.out.below hz) (by have := X3.out.1; omega) (by omega) (by omega) (b'.below hz))
      have HSm : Hid (∀ wz, Below w4.heap.size w4 wz → Calls Tryz.prog 31 #[.slice A4 m4 c4] wz fun e w' => e = .returned (.string sm) ∧ Below wz.heap.size wz w') := hid (fun wz hz => by
        rw [hsm]
        exact sum_dig hl4 (T4.out.below hz) (b'.below hz) (by omega))
      have e4 := cell_at QL.out.1 (i := 4) (v := .slice (some ⟨R, 0, none⟩) ns rc) rfl
      have v0 := cell_at QL.out.2 (i := 0) (v := .string d) rfl
      have LD := hid (show lk.size ≤ 1000 by rw [hlk, dig_size]; omega)
      have OR := hid (And.intro (F0.out.2.1.below B4.out) (And.intro (F0.out.2.2.2.2.low _ wr w4 tp TI0.out b4) b4))
      have XO := hid (below_own (below_then (below_then B12.out H2w.out) b4) X3.out.2.2.2.1)
      clear hlk hsm HD0 b' o4 f4 b4 HE z0 z1 BW
      obtain ⟨i0, hi, hz0, hz1, hz2⟩ := info_parts infoS
      go_upto_region 11 with fail
      refine start_ (n := 22) (S := fun w' => w'.cell? ⟨L, 4, none⟩ = some (.slice (some ⟨R, 0, none⟩) ns rc) ∧ w'.cell? ⟨S4, 0, none⟩ = some (.string d) ∧ Below w4.heap.size w4 w') (ds := [18, 21]) (tf 22 0) (by kernel_rfl) rfl rfl ⟨e4, v0, (Below.refl w4.heap.size w4).drew⟩ (fun hHeld => ?_); refine pure_ (i := 0) (N := some 45) (v := ?_) (a' := ?_) (tf 22 1) rfl rfl (by kernel_rfl) (fun _ _ _ h => h) (Or.inl ⟨by rfl, ?_⟩) ?_ ?_; rotate_left; (· intro w'; go_simp; (with_reducible rfl)); rotate_left; (· simp only [pn_]; rfl); refine pure_ (i := 1) (N := some 46) (v := ?_) (a' := ?_) (tf 22 3) rfl rfl (by kernel_rfl) (fun _ _ _ h => h) (Or.inl ⟨by rfl, ?_⟩) ?_ ?_; rotate_left; (· intro w'; go_simp; (with_reducible rfl)); rotate_left; (· simp only [pn_]; rfl); refine pure_ (i := 2) (N := some 47) (v := ?_) (a' := ?_) (tf 22 7) rfl rfl (by kernel_rfl) (fun _ _ _ h => h) (Or.inl ⟨by rfl, ?_⟩) ?_ ?_; rotate_left; (· intro w'; go_simp; (with_reducible rfl)); rotate_left; (· simp only [pn_]; rfl); refine pure_ (i := 3) (N := some 48) (v := ?_) (a' := ?_) (tf 22 15) rfl rfl (by kernel_rfl) (fun _ _ _ h => h) (Or.inl ⟨by rfl, ?_⟩) ?_ ?_; rotate_left; (· intro w'; go_simp; (with_reducible rfl)); rotate_left; (· simp only [pn_]; rfl); refine pure_ (i := 5) (N := some 50) (v := ?_) (a' := ?_) (tf 22 47) rfl rfl (by kernel_rfl) (fun _ _ _ h => h) (Or.inl ⟨by rfl, ?_⟩) ?_ ?_; rotate_left; (· intro w'; go_simp; (with_reducible rfl)); rotate_left; (· simp only [pn_]; rfl); refine pure_ (i := 7) (N := some 52) (v := ?_) (a' := ?_) (tf 22 175) rfl rfl (by kernel_rfl) (fun _ _ _ h => h) (Or.inl ⟨by rfl, ?_⟩) ?_ ?_; rotate_left; (· intro w'; go_simp; (with_reducible rfl)); rotate_left; (· simp only [pn_]; rfl); refine pure_ (i := 9) (N := some 54) (v := ?_) (a' := ?_) (tf 22 687) rfl rfl (by kernel_rfl) (fun _ _ _ h => h) (Or.inl ⟨by rfl, ?_⟩) ?_ ?_; rotate_left; (· intro w'; go_simp; (with_reducible rfl)); rotate_left; (· simp only [pn_]; rfl); refine pure_ (i := 11) (N := some 56) (v := ?_) (a' := ?_) (tf 22 2735) rfl rfl (by kernel_rfl) (fun _ _ _ h => h) (Or.inl ⟨by rfl, ?_⟩) ?_ ?_; rotate_left; (· intro w'; go_simp; (with_reducible rfl)); rotate_left; (· simp only [pn_]; rfl); refine pure_ (i := 13) (N := some 58) (v := ?_) (a' := ?_) (tf 22 10927) rfl rfl (by kernel_rfl) (fun _ _ _ h => h) (Or.inl ⟨by rfl, ?_⟩) ?_ ?_; rotate_left; (· intro w'; go_simp; (with_reducible rfl)); rotate_left; (· simp only [pn_]; rfl); refine pure_ (i := 15) (N := some 60) (v := ?_) (a' := ?_) (tf 22 43695) rfl rfl (by kernel_rfl) (fun _ _ _ h => h) (Or.inl ⟨by rfl, ?_⟩) ?_ ?_; rotate_left; (· intro w'; go_simp; (with_reducible rfl)); rotate_left; (· simp only [pn_]; rfl); refine take_ (i := 4) (N := some 49) (v := ?_) (a' := ?_) (tf 22 43711) rfl rfl (by kernel_rfl) (fun _ _ _ h => h) (Or.inl ⟨by rfl, ?_⟩) hHeld ?_ ?_; rotate_left; (· rintro w' ⟨s0, s1, s2⟩; go_simp; (with_reducible rfl)); rotate_left; (· simp only [pn_]; rfl); refine take_ (i := 6) (N := some 51) (v := ?_) (a' := ?_) (tf 22 43775) rfl rfl (by kernel_rfl) (fun _ _ _ h => h) (Or.inl ⟨by rfl, ?_⟩) hHeld ?_ ?_; rotate_left; (· rintro w' ⟨s0, s1, s2⟩; go_simp; (with_reducible rfl)); rotate_left; (· simp only [pn_]; rfl); refine take_ (i := 12) (N := some 57) (v := ?_) (a' := ?_) (tf 22 47871) rfl rfl (by kernel_rfl) (fun _ _ _ h => h) (Or.inl ⟨by rfl, ?_⟩) hHeld ?_ ?_; rotate_left; (· rintro w' ⟨s0, s1, s2⟩; go_simp; (with_reducible rfl)); rotate_left; (· simp only [pn_]; rfl); refine one_ (i := 8) (N := some 53) (tf 22 48127) rfl rfl (by kernel_rfl) (by decide) (fun K hK => ?_); refine goes_ Tryz.func124 (by kernel_rfl) rfl #[.pointer tp] (by rfl) rfl rfl (by simp only [List.map_toArray, List.map_cons, List.map_nil]; rfl) ?_; (with_reducible refine ((HDg.out _ hHeld.2.2)).mono ?_); rintro e' wy ⟨rfl, by_⟩; refine ⟨_, rfl, ?_⟩; refine hK.out _ _ ⟨(below_cell by_ hHeld.1), (below_cell by_ hHeld.2.1), (below_then hHeld.2.2 by_)⟩ (fun hHeld => ?_); clear hK K; refine norm_ (a' := ?_) ?_ ?_; rotate_left; (· show Act.put _ (some 53) _ = _; simp only [pn_]; rfl); refine one_ (i := 10) (N := some 55) (tf 22 49151) rfl rfl (by kernel_rfl) (by decide) (fun K hK => ?_); refine goes_ Tryz.func57 (by kernel_rfl) rfl #[.string d, .string dd, .slice A4 m4 c4] (by rfl) rfl rfl (by simp only [List.map_toArray, List.map_cons, List.map_nil]; rfl) ?_; (with_reducible refine ((HLk.out _ hHeld.2.2)).mono ?_); rintro e' wz ⟨rfl, bz_⟩; refine ⟨_, rfl, ?_⟩; refine hK.out _ _ ⟨(below_cell bz_ hHeld.1), (below_cell bz_ hHeld.2.1), (below_then hHeld.2.2 bz_)⟩ (fun hHeld => ?_); clear hK K; refine norm_ (a' := ?_) ?_ ?_; rotate_left; (· show Act.put _ (some 55) _ = _; simp only [pn_]; rfl); refine one_ (i := 14) (N := some 59) (tf 22 65535) rfl rfl (by kernel_rfl) (by decide) (fun K hK => ?_); refine goes_ Tryz.func31 (by kernel_rfl) rfl #[.slice A4 m4 c4] (by rfl) rfl rfl (by simp only [List.map_toArray, List.map_cons, List.map_nil]; rfl) ?_; (with_reducible refine ((HSm.out _ hHeld.2.2)).mono ?_); rintro e' w5 ⟨rfl, b5_⟩; refine ⟨_, rfl, ?_⟩; have b5 := below_then hHeld.2.2 b5_; have oR5 := below_own b5 XO.out; refine hK.out _ _ ⟨(below_cell b5_ hHeld.1), (below_cell b5_ hHeld.2.1), (below_then hHeld.2.2 b5_)⟩ (fun hHeld => ?_); clear hK K; refine norm_ (a' := ?_) ?_ ?_; rotate_left; (· show Act.put _ (some 59) _ = _; simp only [pn_]; rfl); refine pure_ (i := 16) (N := some 61) (v := ?_) (a' := ?_) (tf 22 131071) rfl rfl (by kernel_rfl) (fun _ _ _ h => h) (Or.inl ⟨by rfl, ?_⟩) ?_ ?_; rotate_left; (· intro w'; go_simp; (with_reducible rfl)); rotate_left; (· simp only [pn_]; rfl); refine one_ (i := 17) (N := some 62) (tf 22 262143) rfl rfl (by kernel_rfl) (by decide) (fun K hK => ?_); refine value_ (w1 := ?_) (v := ?_) (by rfl) rfl ?_ ?_; rotate_left 2; (· go_simp; constructor; (· rfl); (· rfl)); refine hK.out _ _ ⟨(below_cell (below_alloc (Below.refl _ _) (.cells #[.string lk, .string d, .string sm, .pointer tp] 89)) hHeld.1), (below_cell (below_alloc (Below.refl _ _) (.cells #[.string lk, .string d, .string sm, .pointer tp] 89)) hHeld.2.1), (below_then hHeld.2.2 (below_alloc (Below.refl _ _) (.cells #[.string lk, .string d, .string sm, .pointer tp] 89)))⟩ (fun hHeld => ?_); clear hK K; refine norm_ (a' := ?_) ?_ ?_; rotate_left; (· show Act.put _ (some 62) _ = _; simp only [pn_]; rfl); refine last_ (i := 18) (N := some 63) (tf 22 524287) rfl rfl (by kernel_rfl) (by decide) (fun K hK => ?_); refine step_app rfl (.tmp 49) (.tmp 62) 93 rfl 89 i0 (.agg #[.string ⟨#[]⟩, .string ⟨#[]⟩, .string ⟨#[]⟩, .pointer none]) 4 56 Tryz.underlying93 hi hz0 hz1 hz2 rfl (by decide) _ ns xs rfl (oR5.alloc _) (some ⟨w5.heap.size, 0, none⟩) 1 1 [.string lk, .string d, .string sm, .pointer tp] rfl rfl (fun e => by cases e) ?_ ?_ (by have := X3.out.2.2.1; unfold maxLen; omega) (by have := X3.out.2.2.1; omega) ?_; (· intro ad e j u hu; cases e; rw [add_plain]; exact cell_at (heap_alloc_new _ _) (by simpa using hu))
      · intro u hu; simp at hu; rcases hu with rfl | rfl | rfl | rfl <;> rfl
      intro A6 c6 w6 p1 p2 p3 p4; have p2' : World.grownBy _ w6 (some R) := p2; have gL6 := (p2.block L (by have := lt_of_block (below_heap b5 QL.out.1); simp; omega) (fun e => by obtain ⟨cur, hc⟩ := own_typed oR5 e.symm; rw [below_heap b5 QL.out.1] at hc; injection hc with hc; injection hc with _ hc; exact absurd hc (by decide))).trans (below_heap (below_alloc (Below.refl _ w5) (.cells #[.string lk, .string d, .string sm, .pointer tp] 89)) (below_heap b5 QL.out.1)); have d4 := cell_at gL6 (i := 4) (v := .slice (some ⟨R, 0, none⟩) ns rc) rfl; have d5 := free_at gL6 4; refine hK.out _ _ ?_; clear hK K; refine norm_ (a' := ?_) ?_ ?_; rotate_left; (· show Act.put _ (some 63) _ = _; simp only [pn_]; rfl); refine pure_ (i := 19) (N := some 64) (v := ?_) (a' := ?_) (tf 22 1048575) rfl rfl (by kernel_rfl) (fun _ _ _ h => h) (Or.inl ⟨by rfl, ?_⟩) ?_ ?_; rotate_left; (· intro w'; go_simp; (with_reducible rfl)); rotate_left; (· simp only [pn_]; rfl); refine pure_ (i := 20) (N := some 65) (v := ?_) (a' := ?_) (tf 22 2097151) rfl rfl (by kernel_rfl) (fun _ _ _ h => h) (Or.inl ⟨by rfl, ?_⟩) ?_ ?_; rotate_left; (· intro w'; go_simp; (with_reducible rfl)); rotate_left; (· simp only [pn_]; rfl); refine last_ (i := 21) (N := none) (tf 22 4194303) rfl rfl (by kernel_rfl) (by decide) (fun K hK => ?_); refine skip_ (w1 := ?_) (by rfl) rfl ?_ ?_; rotate_left; (· go_simp; rfl); refine hK.out _ _ ?_; clear hK K; refine done_ (by kernel_rfl) ?_
      obtain ⟨g6, rfl⟩ := slice_of p1 (by omega)
      obtain ⟨m1, hm1⟩ : ∃ x, x = ns + 1 := ⟨_, rfl⟩
      obtain ⟨w7, hw7⟩ : ∃ x, x = w6.setCell ⟨L, 4, none⟩ (.slice (some ⟨g6, 0, none⟩) (ns + 1) c6) := ⟨_, rfl⟩
      have g7 : w7.heap[L]? = some (.cells (ledC Tb tc S O next g6 m1 c6) 95 (0, 0)) := by rw [hw7, heap_set gL6, hm1]; rfl
      have k67 : KT [95] [] [] w6 w7 := by rw [hw7]; exact (KT.refl _ _ _ _).set (p := ⟨L, 4, none⟩) gL6 (by simp) _
      have hxl : xs.length = ns * 4 := oR5.1
      have st7 : StAt w7 g6 m1 c6 tp := by
        rw [hm1]
        refine ⟨xs ++ [.string lk, .string d, .string sm, .pointer tp], lk, d, sm, ns, own_keeps p1 k67 ⟨by decide, by decide⟩, rfl, by omega, ?_, ?_, ?_, ?_, LD.out, ?_⟩
        · rw [List.getElem?_append_right (by omega)]; simp [hxl]
        · rw [List.getElem?_append_right (by omega)]; simp [hxl]
        · rw [List.getElem?_append_right (by omega)]; simp [hxl]
        · rw [List.getElem?_append_right (by omega)]; simp [hxl]
        · intro u hu
          rcases List.mem_append.1 hu with hu | hu
          · exact X3.out.2.2.2.2 u hu
          · simp at hu; rcases hu with rfl | rfl | rfl | rfl <;> rfl
      have kb7 : KB [L, R] [95, 89] [] [] w w7 := by
        rw [hw7]
        refine KB.set (p := ⟨L, 4, none⟩) (KB.grown (KB.of_below (below_alloc (below_then B4.out b5) (.cells #[.string lk, .string d, .string sm, .pointer tp] 89))) p2' ?_) F0.out.1 (by simp) (by simp) _
        intro k e _
        cases e
        obtain ⟨cur, hc⟩ := F0.out.2.1.block
        exact ⟨by simp, cur, _, _, hc, by simp⟩
      have TI7 := hid (And.intro (F0.out.2.2.2.2.low _ _ _ _ OR.out.2.1 (below_alloc b5 (.cells #[.string lk, .string d, .string sm, .pointer tp] 89))) (below_alloc (below_then B4.out b5) (.cells #[.string lk, .string d, .string sm, .pointer tp] 89)))
      have P2g := hid p2'
      have e7 := cell_at g7 (i := 4) (v := .slice (some ⟨g6, 0, none⟩) m1 c6) rfl
      have wm : wrap64 ((m1 : Int) - 6) = (m1 : Int) - 6 := by unfold wrap64; omega
      have K7 := hid (And.intro g7 (And.intro st7 (And.intro kb7 (And.intro hw7 hm1))))
      rw [← hw7, ← hm1]
      clear hw7 g7 st7 kb7 k67 hxl p1 p2' p2 p3 p4 d4 d5 gL6 oR5 b5 hi hz0 hz1 hz2 e4 v0 hm1
      go_upto_region 12 with fail
      have wn : max ((m1 : Int) - 6) 0 = 0 := by rw [K7.out.2.2.2.2]; have := X3.out.2.2.1; omega
      have HC := hid (fun (wz : World) (hz : Below w7.heap.size w7 wz) => clone_states (K7.out.2.1.below hz))
      refine start_ (n := 17) (S := fun w' => w'.cell? ⟨L, 4, none⟩ = some (.slice (some ⟨g6, 0, none⟩) m1 c6) ∧ Below w7.heap.size w7 w') (ds := [16]) (tf 17 0) (by kernel_rfl) rfl rfl ⟨e7, (Below.refl w7.heap.size w7).drew⟩ (fun hHeld => ?_); refine pure_ (i := 0) (N := some 66) (v := ?_) (a' := ?_) (tf 17 1) rfl rfl (by kernel_rfl) (fun _ _ _ h => h) (Or.inl ⟨by rfl, ?_⟩) ?_ ?_; rotate_left; (· intro w'; go_simp; (with_reducible rfl)); rotate_left; (· simp only [pn_, wm, wn]; rfl); refine pure_ (i := 1) (N := some 67) (v := ?_) (a' := ?_) (tf 17 3) rfl rfl (by kernel_rfl) (fun _ _ _ h => h) (Or.inl ⟨by rfl, ?_⟩) ?_ ?_; rotate_left; (· intro w'; go_simp; (with_reducible rfl)); rotate_left; (· simp only [pn_, wm, wn]; rfl); refine pure_ (i := 2) (N := some 68) (v := ?_) (a' := ?_) (tf 17 7) rfl rfl (by kernel_rfl) (fun _ _ _ h => h) (Or.inl ⟨by rfl, ?_⟩) ?_ ?_; rotate_left; (· intro w'; go_simp; (with_reducible rfl)); rotate_left; (· simp only [pn_, wm, wn]; rfl); refine pure_ (i := 3) (N := some 69) (v := ?_) (a' := ?_) (tf 17 15) rfl rfl (by kernel_rfl) (fun _ _ _ h => h) (Or.inl ⟨by rfl, ?_⟩) ?_ ?_; rotate_left; (· intro w'; go_simp; (with_reducible rfl)); rotate_left; (· simp only [pn_, wm, wn]; rfl); refine pure_ (i := 5) (N := some 71) (v := ?_) (a' := ?_) (tf 17 47) rfl rfl (by kernel_rfl) (fun _ _ _ h => h) (Or.inl ⟨by rfl, ?_⟩) ?_ ?_; rotate_left; (· intro w'; go_simp; (with_reducible rfl)); rotate_left; (· simp only [pn_, wm, wn]; rfl); refine pure_ (i := 6) (N := some 72) (v := ?_) (a' := ?_) (tf 17 111) rfl rfl (by kernel_rfl) (fun _ _ _ h => h) (Or.inl ⟨by rfl, ?_⟩) ?_ ?_; rotate_left; (· intro w'; go_simp; (with_reducible rfl)); rotate_left; (· simp only [pn_, wm, wn]; rfl); refine pure_ (i := 7) (N := some 73) (v := ?_) (a' := ?_) (tf 17 239) rfl rfl (by kernel_rfl) (fun _ _ _ h => h) (Or.inl ⟨by rfl, ?_⟩) ?_ ?_; rotate_left; (· intro w'; go_simp; (with_reducible rfl)); rotate_left; (· simp only [pn_, wm, wn]; rfl); refine take_ (i := 4) (N := some 70) (v := ?_) (a' := ?_) (tf 17 255) rfl rfl (by kernel_rfl) (fun _ _ _ h => h) (Or.inl ⟨by rfl, ?_⟩) hHeld ?_ ?_; rotate_left; (· rintro w' ⟨s0, s1⟩; go_simp; (with_reducible rfl)); rotate_left; (· simp only [pn_, wm, wn]; rfl); refine take_ (i := 8) (N := some 74) (v := ?_) (a' := ?_) (tf 17 511) rfl rfl (by kernel_rfl) (fun _ _ _ h => h) (Or.inl ⟨by rfl, ?_⟩) hHeld ?_ ?_; rotate_left; (· rintro w' ⟨s0, s1⟩; go_simp; (with_reducible rfl)); rotate_left; (· simp only [pn_, wm, wn]; rfl); refine pure_ (i := 9) (N := some 75) (v := ?_) (a' := ?_) (tf 17 1023) rfl rfl (by kernel_rfl) (fun _ _ _ h => h) (Or.inl ⟨by rfl, ?_⟩) ?_ ?_; rotate_left; (· intro w'; go_simp; (with_reducible rfl)); rotate_left; (· simp only [pn_, wm, wn]; rfl); refine pure_ (i := 10) (N := some 76) (v := ?_) (a' := ?_) (tf 17 2047) rfl rfl (by kernel_rfl) (fun _ _ _ h => h) (Or.inl ⟨by rfl, ?_⟩) ?_ ?_; rotate_left; (· intro w'; go_simp; (with_reducible rfl)); rotate_left; (· simp only [pn_, wm, wn]; rfl); refine pure_ (i := 11) (N := some 77) (v := ?_) (a' := ?_) (tf 17 4095) rfl rfl (by kernel_rfl) (fun _ _ _ h => h) (Or.inl ⟨by rfl, ?_⟩) ?_ ?_; rotate_left; (· intro w'; go_simp; (with_reducible rfl)); rotate_left; (· simp only [pn_, wm, wn]; rfl); refine pure_ (i := 12) (N := some 78) (v := ?_) (a' := ?_) (tf 17 8191) rfl rfl (by kernel_rfl) (fun _ _ _ h => h) (Or.inl ⟨by rfl, ?_⟩) ?_ ?_; rotate_left; (· intro w'; go_simp; (with_reducible rfl)); rotate_left; (· simp only [pn_, wm, wn]; rfl); refine one_ (i := 13) (N := some 79) (tf 17 16383) rfl rfl (by kernel_rfl) (by decide) (fun K hK => ?_); refine goes_ Tryz.func125 (by kernel_rfl) rfl #[.slice (some ⟨g6, 0, none⟩) m1 c6] (by rfl) rfl rfl (by simp only [List.map_toArray, List.map_cons, List.map_nil]; rfl) ?_; (with_reducible refine ((HC.out _ hHeld.2)).mono ?_); rintro e' w8 ⟨g8, c8, rfl, st8, z8, b8⟩; refine ⟨_, rfl, ?_⟩; have b78 := below_then hHeld.2 b8; have z78 := Nat.le_trans hHeld.2.size z8; have gL8 := below_heap b78 K7.out.1; have f8 := free_at gL8 4; refine hK.out _ _ ⟨(below_cell b8 hHeld.1), b78⟩ (fun hHeld => ?_); clear hK K; refine norm_ (a' := ?_) ?_ ?_; rotate_left; (· show Act.put _ (some 79) _ = _; simp only [pn_, wm, wn]; rfl); refine pure_ (i := 14) (N := some 80) (v := ?_) (a' := ?_) (tf 17 32767) rfl rfl (by kernel_rfl) (fun _ _ _ h => h) (Or.inl ⟨by rfl, ?_⟩) ?_ ?_; rotate_left; (· intro w'; go_simp; (with_reducible rfl)); rotate_left; (· simp only [pn_, wm, wn]; rfl); refine pure_ (i := 15) (N := some 81) (v := ?_) (a' := ?_) (tf 17 65535) rfl rfl (by kernel_rfl) (fun _ _ _ h => h) (Or.inl ⟨by rfl, ?_⟩) ?_ ?_; rotate_left; (· intro w'; go_simp; (with_reducible rfl)); rotate_left; (· simp only [pn_, wm, wn]; rfl); refine last_ (i := 16) (N := none) (tf 17 131071) rfl rfl (by kernel_rfl) (by decide) (fun K hK => ?_); refine skip_ (w1 := ?_) (by rfl) rfl ?_ ?_; rotate_left; (· go_simp; rfl); refine hK.out _ _ ?_; clear hK K; refine done_ (by kernel_rfl) ?_
      go_wp2
      go_end0
      have gL9 := heap_set (i := 4) (v := .slice (some ⟨g8, 0, none⟩) m1 c8) gL8
      have kk : KT [95] [] [] w8 (w8.setCell ⟨L, 4, none⟩ (.slice (some ⟨g8, 0, none⟩) m1 c8)) := (KT.refl _ _ _ _).set (p := ⟨L, 4, none⟩) gL8 (by simp) _
      rw [← K7.out.2.2.2.2]
      refine ⟨rfl, g8, c8, tp, gL9, st8.keeps kk (by decide), ?_, ?_, ?_⟩
      · refine F0.out.2.2.2.2.fin _ _ _ TI7.out.1 ?_
        refine KT.set (p := ⟨L, 4, none⟩) (KT.below ?_ b78) (t := 95) (below_heap TI7.out.2 F0.out.1) (by simp) _
        rw [K7.out.2.2.2.1]
        refine KT.set (p := ⟨L, 4, none⟩) (KT.grown (KT.refl _ _ _ _) P2g.out ?_) (t := 95) (below_heap TI7.out.2 F0.out.1) (by simp) _
        intro k e _
        cases e
        obtain ⟨cur, hc⟩ := F0.out.2.1.block
        exact ⟨_, below_heap TI7.out.2 hc, .inl (by simp)⟩
      · have := K7.out.2.2.1.1.size
        omega
      · exact KB.set (p := ⟨L, 4, none⟩) (K7.out.2.2.1.below b78) F0.out.1 (by simp) (by simp) _
end Go.Proofs.YtnidgljkbmceaaaGreatDoor
