/- The walks of what makes trees: leaf, join, half, with. -/
import Derived.Test.YtnidgljkbmceaaaGreatDoorG13
set_option linter.unusedVariables false
set_option linter.unusedSimpArgs false
namespace Go.Proofs.YtnidgljkbmceaaaGreatDoor
open Go.RowKit PrintLast
theorem bitK_any {w : World} {k : ByteArray} {d : Nat} (hd : d ≤ 1000000) :
    Calls Tryz.prog 197 #[.string (pathS k), .int .i64 (d : Int)] w fun e w' => e = .returned (.int .i64 (btK k d)) ∧ w = w' := by
  have := bit_any (w := w) (s := pathS k) (i := (d : Int)) (by rw [pathS_list, path_length]; omega) ⟨by omega, by omega⟩
  rw [pathS_list] at this
  exact this
def Grew (w : World) (t : Tr) (e : Ending) (w' : World) : Prop := ∃ v, e = .returned v ∧ Tree w' v t ∧ Below w.heap.size w w'
theorem sumK {w : World} (hT : Table w) {g c : Nat} {k : ByteArray} (hk : k.size ≤ 1000000) (hp : BSA w (some ⟨g, 0, none⟩) c k.data.toList) :
    Calls Tryz.prog 31 #[.slice (some ⟨g, 0, none⟩) k.size c] w fun e w' => e = .returned (.string (pathS k)) ∧ Below w.heap.size w w' := sum_dig (bsz k) hT hp (by rw [bsz]; omega)
set_option maxHeartbeats 3200000 in
theorem leaf_new {w : World} (hT : Table w) {key : ByteArray} {A : Option Addr} {c n : Nat} {row : List UInt8} (hk : key.size ≤ 1000000) (hn : row.length = n) (hr : n ≤ 1000000) (hA : BSA w A c row) :
    Calls Tryz.prog 172 #[.string key, .slice A n c] w (Grew w (.leaf ⟨key, row⟩)) := by
  have ks : key.size ≤ maxLen := by unfold maxLen; omega
  have TT := hid hT
  have AA := hid hA
  have HN := hid hn
  clear hT hA hn
  go_enter Tryz.func172, Tryz.ntmps172
  go_wp2_with (refine wpList_conv rfl (.tmp 5) rfl key rfl ks ?_)
  intro g1 c1 w1 _ q1 b1
  replace TT := hid (TT.out.below b1)
  replace AA := hid (AA.out.below b1)
  have BB := hid b1
  have H := hid (sumK TT.out hk q1)
  clear b1 q1 ks
  go_wp2_with fail
  refine H.out.mono ?_
  rintro e w2 ⟨rfl, b2⟩
  replace TT := hid (TT.out.below b2)
  replace AA := hid (AA.out.below b2)
  replace BB := hid (below_then BB.out b2)
  have H := hid (clone_gave HN.out AA.out (by rw [HN.out]; omega))
  clear b2
  go_wp2_with fail
  refine H.out.mono ?_
  rintro e w3 ⟨A3, c3, rfl, r3, b3⟩
  rw [HN.out]
  replace TT := hid (TT.out.below b3)
  replace AA := hid (AA.out.below b3)
  replace BB := hid (below_then BB.out b3)
  have RR := hid r3
  have H0 := leaf_any TT.out hk (by rw [HN.out]; exact hr) AA.out
  rw [HN.out] at H0
  have H := hid H0
  clear b3 r3 H0
  go_wp2_with fail
  refine H.out.mono ?_
  rintro e w4 ⟨rfl, b4⟩
  replace RR := hid (RR.out.below b4)
  replace BB := hid (below_then BB.out b4)
  obtain ⟨P, hP⟩ : ∃ P, P = pathS key := ⟨_, rfl⟩
  obtain ⟨D, hD⟩ : ∃ D, D = dig (leafB key.data.toList row) := ⟨_, rfl⟩
  rw [← hP, ← hD]
  have al := below_alloc (Below.refl _ w4) (.cells #[.pointer none, .pointer none, .string P, .string key, .slice A3 n c3, .string D, .int .i64 1] 299)
  have gb := heap_alloc_new w4 (.cells #[.pointer none, .pointer none, .string P, .string key, .slice A3 n c3, .string D, .int .i64 1] 299)
  have R5 := RR.out.below al
  have FIN : Hid (Tree (w4.alloc (.cells #[.pointer none, .pointer none, .string P, .string key, .slice A3 n c3, .string D, .int .i64 1] 299)) (.pointer (some ⟨w4.heap.size, 0, none⟩)) (.leaf ⟨key, row⟩)) := hid (by
    refine ⟨w4.heap.size, A3, c3, rfl, by simp, ?_, R5.bsa, fun h0 => ?_⟩
    · rw [gb, hP, hD]
      show _ = some (Obj.cells (ncells _ _ _ _ (.slice A3 row.length c3) _ _) _ _)
      rw [HN.out]
      rfl
    · obtain ⟨g, rfl⟩ := R5.place h0
      obtain ⟨cur, hg, _, _⟩ := R5.heap
      exact ⟨g, 0, rfl, lt_of_block hg⟩)
  have B5 := hid (below_then BB.out al)
  clear al gb R5 hP hD H b4
  go_wp2
  go_ret
  exact ⟨_, rfl, FIN.out, B5.out⟩
theorem half_any {w : World} {N : Nat} {v : Value} {l r : Tr} {k : ByteArray} {d : Nat} (hd : d ≤ 1000000) (h : TreeAt w N v (.node l r)) :
    Calls Tryz.prog 194 #[v, .string (pathS k), .int .i64 (d : Int)] w fun e w' => ∃ v', e = .returned v' ∧ TreeAt w N v' (if btK k d = 0 then l else r) ∧ w = w' := by
  have H := hid (bitK_any (w := w) (k := k) hd)
  obtain ⟨g, vl, vr, rfl, _, h3, h4, h5⟩ := h
  obtain ⟨c0, c1, -, -, -, -, -⟩ := seven h3
  have HL := hid (And.intro h4 h5)
  obtain ⟨b, hb⟩ : ∃ b, b = btK k d := ⟨_, rfl⟩
  have b2 := btK_two k d
  rw [← hb] at H b2 ⊢
  obtain ⟨P, hP⟩ : ∃ P, P = pathS k := ⟨_, rfl⟩
  rw [← hP] at H ⊢
  clear h3 h4 h5 hb hP
  rcases b2 with rfl | rfl
  all_goals
    go_enter Tryz.func194, Tryz.ntmps194
    go_wp2_with fail
    refine H.out.mono ?_
    rintro e w1 ⟨rfl, rfl⟩
    go_wp2
    go_ret
  · exact ⟨vl, rfl, HL.out.1, rfl⟩
  · exact ⟨vr, rfl, HL.out.2, rfl⟩
def Fine (t : Tr) : Prop := t.Wf ∧ t.count ≤ 1000000000
set_option maxRecDepth 100000 in
set_option maxHeartbeats 6400000 in
theorem join_nil_some {w : World} (hT : Table w) {gl gr : Nat} {l r : Tr} (hl' : Tree w (.pointer none) l) (hr' : Tree w (.pointer (some ⟨gr, 0, none⟩)) r) (hll : isLeaf l = false ∨ True) (hrl : isLeaf r = false ∨ False) (hc : 0 < l.count + r.count) (hcl : l.count ≤ 1000000000) (hcr : r.count ≤ 1000000000) :
    Calls Tryz.prog 232 #[.pointer none, .pointer (some ⟨gr, 0, none⟩)] w (Grew w (.node l r)) := by
  have TT := hid hT
  have LL := hid hl'
  have RR := hid hr'
  replace hrl : isLeaf r = false := by simpa using hrl
  clear hll
  have H1 := hid (len_any hl')
  have H2 := hid (len_any hr')
  obtain ⟨lc, hlc⟩ : ∃ lc, lc = l.count := ⟨_, rfl⟩
  obtain ⟨rc, hrc⟩ : ∃ rc, rc = r.count := ⟨_, rfl⟩
  rw [← hlc] at H1 hc hcl
  rw [← hrc] at H2 hc hcr
  have CN := hid (And.intro hlc hrc)
  have t0 : ((lc : Int) + (rc : Int) == 0) = false := by rw [beq_eq_false_iff_ne]; omega
  clear hlc hrc hT
  go_enter Tryz.func232, Tryz.ntmps232
  go_wp2_with fail
  refine H1.out.mono ?_
  rintro e w1 ⟨rfl, rfl⟩
  go_wp2_with fail
  refine H2.out.mono ?_
  rintro e w2 ⟨rfl, rfl⟩
  clear H1 H2
  have HS := hid (single_any hr')
  rw [hrl] at HS
  go_wp2_with fail
  refine HS.out.mono ?_
  rintro e w3 ⟨rfl, rfl⟩
  clear HS
  have HD := hid (digest_any TT.out LL.out)
  go_wp2_with fail
  refine HD.out.mono ?_
  rintro e w4 ⟨rfl, b4⟩
  replace TT := hid (TT.out.below b4)
  replace LL := hid (Tree.below LL.out b4)
  replace RR := hid (Tree.below RR.out b4)
  have BB := hid b4
  clear b4 HD
  have HD := hid (digest_any TT.out RR.out)
  go_wp2_with fail
  refine HD.out.mono ?_
  rintro e w5 ⟨rfl, b5⟩
  replace TT := hid (TT.out.below b5)
  replace LL := hid (Tree.below LL.out b5)
  replace RR := hid (Tree.below RR.out b5)
  replace BB := hid (below_then BB.out b5)
  clear b5 HD
  have HD := hid (node_any (a := digS l) (b := digS r) TT.out (by rw [digS_size]; omega) (by rw [digS_size]; omega))
  go_wp2_with fail
  refine HD.out.mono ?_
  rintro e w6 ⟨rfl, b6⟩
  replace LL := hid (Tree.below LL.out b6)
  replace RR := hid (Tree.below RR.out b6)
  replace BB := hid (below_then BB.out b6)
  clear b6 HD
  rw [digS_list, digS_list]
  obtain ⟨D, hD⟩ : ∃ D, D = dig (nodeB l.dig r.dig) := ⟨_, rfl⟩
  rw [← hD]
  obtain ⟨sn, hsn⟩ : ∃ sn, sn = lc + rc := ⟨_, rfl⟩
  have esn : (lc : Int) + (rc : Int) = (sn : Int) := by omega
  have al := below_alloc (Below.refl _ w6) (.cells #[.pointer none, .pointer (some ⟨gr, 0, none⟩), .string ⟨#[]⟩, .string ⟨#[]⟩, .slice none 0 0, .string D, .int .i64 (sn : Int)] 299)
  have gb := heap_alloc_new w6 (.cells #[.pointer none, .pointer (some ⟨gr, 0, none⟩), .string ⟨#[]⟩, .string ⟨#[]⟩, .slice none 0 0, .string D, .int .i64 (sn : Int)] 299)
  have FIN : Hid (Tree (w6.alloc (.cells #[.pointer none, .pointer (some ⟨gr, 0, none⟩), .string ⟨#[]⟩, .string ⟨#[]⟩, .slice none 0 0, .string D, .int .i64 (sn : Int)] 299)) (.pointer (some ⟨w6.heap.size, 0, none⟩)) (.node l r)) := hid (by
    refine ⟨w6.heap.size, .pointer none, .pointer (some ⟨gr, 0, none⟩), rfl, by simp, ?_, Tree.below LL.out al, Tree.below RR.out al⟩
    rw [gb, hD, hsn, CN.out.1, CN.out.2]
    rfl)
  have B7 := hid (below_then BB.out al)
  clear al gb hD hsn
  try rw [esn]
  clear esn
  go_wp2
  go_ret
  exact ⟨_, rfl, FIN.out, B7.out⟩
set_option maxRecDepth 100000 in
set_option maxHeartbeats 6400000 in
theorem join_some_nil {w : World} (hT : Table w) {gl gr : Nat} {l r : Tr} (hl' : Tree w (.pointer (some ⟨gl, 0, none⟩)) l) (hr' : Tree w (.pointer none) r) (hll : isLeaf l = false ∨ False) (hrl : isLeaf r = false ∨ True) (hc : 0 < l.count + r.count) (hcl : l.count ≤ 1000000000) (hcr : r.count ≤ 1000000000) :
    Calls Tryz.prog 232 #[.pointer (some ⟨gl, 0, none⟩), .pointer none] w (Grew w (.node l r)) := by
  have TT := hid hT
  have LL := hid hl'
  have RR := hid hr'
  clear hrl
  replace hll : isLeaf l = false := by simpa using hll
  have H1 := hid (len_any hl')
  have H2 := hid (len_any hr')
  obtain ⟨lc, hlc⟩ : ∃ lc, lc = l.count := ⟨_, rfl⟩
  obtain ⟨rc, hrc⟩ : ∃ rc, rc = r.count := ⟨_, rfl⟩
  rw [← hlc] at H1 hc hcl
  rw [← hrc] at H2 hc hcr
  have CN := hid (And.intro hlc hrc)
  have t0 : ((lc : Int) + (rc : Int) == 0) = false := by rw [beq_eq_false_iff_ne]; omega
  clear hlc hrc hT
  go_enter Tryz.func232, Tryz.ntmps232
  go_wp2_with fail
  refine H1.out.mono ?_
  rintro e w1 ⟨rfl, rfl⟩
  go_wp2_with fail
  refine H2.out.mono ?_
  rintro e w2 ⟨rfl, rfl⟩
  clear H1 H2
  have HS := hid (single_any hl')
  rw [hll] at HS
  go_wp2_with fail
  refine HS.out.mono ?_
  rintro e w3 ⟨rfl, rfl⟩
  clear HS
  have HD := hid (digest_any TT.out LL.out)
  go_wp2_with fail
  refine HD.out.mono ?_
  rintro e w4 ⟨rfl, b4⟩
  replace TT := hid (TT.out.below b4)
  replace LL := hid (Tree.below LL.out b4)
  replace RR := hid (Tree.below RR.out b4)
  have BB := hid b4
  clear b4 HD
  have HD := hid (digest_any TT.out RR.out)
  go_wp2_with fail
  refine HD.out.mono ?_
  rintro e w5 ⟨rfl, b5⟩
  replace TT := hid (TT.out.below b5)
  replace LL := hid (Tree.below LL.out b5)
  replace RR := hid (Tree.below RR.out b5)
  replace BB := hid (below_then BB.out b5)
  clear b5 HD
  have HD := hid (node_any (a := digS l) (b := digS r) TT.out (by rw [digS_size]; omega) (by rw [digS_size]; omega))
  go_wp2_with fail
  refine HD.out.mono ?_
  rintro e w6 ⟨rfl, b6⟩
  replace LL := hid (Tree.below LL.out b6)
  replace RR := hid (Tree.below RR.out b6)
  replace BB := hid (below_then BB.out b6)
  clear b6 HD
  rw [digS_list, digS_list]
  obtain ⟨D, hD⟩ : ∃ D, D = dig (nodeB l.dig r.dig) := ⟨_, rfl⟩
  rw [← hD]
  obtain ⟨sn, hsn⟩ : ∃ sn, sn = lc + rc := ⟨_, rfl⟩
  have esn : (lc : Int) + (rc : Int) = (sn : Int) := by omega
  have al := below_alloc (Below.refl _ w6) (.cells #[.pointer (some ⟨gl, 0, none⟩), .pointer none, .string ⟨#[]⟩, .string ⟨#[]⟩, .slice none 0 0, .string D, .int .i64 (sn : Int)] 299)
  have gb := heap_alloc_new w6 (.cells #[.pointer (some ⟨gl, 0, none⟩), .pointer none, .string ⟨#[]⟩, .string ⟨#[]⟩, .slice none 0 0, .string D, .int .i64 (sn : Int)] 299)
  have FIN : Hid (Tree (w6.alloc (.cells #[.pointer (some ⟨gl, 0, none⟩), .pointer none, .string ⟨#[]⟩, .string ⟨#[]⟩, .slice none 0 0, .string D, .int .i64 (sn : Int)] 299)) (.pointer (some ⟨w6.heap.size, 0, none⟩)) (.node l r)) := hid (by
    refine ⟨w6.heap.size, .pointer (some ⟨gl, 0, none⟩), .pointer none, rfl, by simp, ?_, Tree.below LL.out al, Tree.below RR.out al⟩
    rw [gb, hD, hsn, CN.out.1, CN.out.2]
    rfl)
  have B7 := hid (below_then BB.out al)
  clear al gb hD hsn
  try rw [esn]
  clear esn
  go_wp2
  go_ret
  exact ⟨_, rfl, FIN.out, B7.out⟩
set_option maxRecDepth 100000 in
set_option maxHeartbeats 6400000 in
theorem join_some {w : World} (hT : Table w) {gl gr : Nat} {l r : Tr} (hl' : Tree w (.pointer (some ⟨gl, 0, none⟩)) l) (hr' : Tree w (.pointer (some ⟨gr, 0, none⟩)) r) (hll : isLeaf l = false ∨ True) (hrl : isLeaf r = false ∨ True) (hc : 0 < l.count + r.count) (hcl : l.count ≤ 1000000000) (hcr : r.count ≤ 1000000000) :
    Calls Tryz.prog 232 #[.pointer (some ⟨gl, 0, none⟩), .pointer (some ⟨gr, 0, none⟩)] w (Grew w (.node l r)) := by
  have TT := hid hT
  have LL := hid hl'
  have RR := hid hr'
  clear hrl
  clear hll
  have H1 := hid (len_any hl')
  have H2 := hid (len_any hr')
  obtain ⟨lc, hlc⟩ : ∃ lc, lc = l.count := ⟨_, rfl⟩
  obtain ⟨rc, hrc⟩ : ∃ rc, rc = r.count := ⟨_, rfl⟩
  rw [← hlc] at H1 hc hcl
  rw [← hrc] at H2 hc hcr
  have CN := hid (And.intro hlc hrc)
  have t0 : ((lc : Int) + (rc : Int) == 0) = false := by rw [beq_eq_false_iff_ne]; omega
  clear hlc hrc hT
  go_enter Tryz.func232, Tryz.ntmps232
  go_wp2_with fail
  refine H1.out.mono ?_
  rintro e w1 ⟨rfl, rfl⟩
  go_wp2_with fail
  refine H2.out.mono ?_
  rintro e w2 ⟨rfl, rfl⟩
  clear H1 H2
  have HD := hid (digest_any TT.out LL.out)
  go_wp2_with fail
  refine HD.out.mono ?_
  rintro e w4 ⟨rfl, b4⟩
  replace TT := hid (TT.out.below b4)
  replace LL := hid (Tree.below LL.out b4)
  replace RR := hid (Tree.below RR.out b4)
  have BB := hid b4
  clear b4 HD
  have HD := hid (digest_any TT.out RR.out)
  go_wp2_with fail
  refine HD.out.mono ?_
  rintro e w5 ⟨rfl, b5⟩
  replace TT := hid (TT.out.below b5)
  replace LL := hid (Tree.below LL.out b5)
  replace RR := hid (Tree.below RR.out b5)
  replace BB := hid (below_then BB.out b5)
  clear b5 HD
  have HD := hid (node_any (a := digS l) (b := digS r) TT.out (by rw [digS_size]; omega) (by rw [digS_size]; omega))
  go_wp2_with fail
  refine HD.out.mono ?_
  rintro e w6 ⟨rfl, b6⟩
  replace LL := hid (Tree.below LL.out b6)
  replace RR := hid (Tree.below RR.out b6)
  replace BB := hid (below_then BB.out b6)
  clear b6 HD
  rw [digS_list, digS_list]
  obtain ⟨D, hD⟩ : ∃ D, D = dig (nodeB l.dig r.dig) := ⟨_, rfl⟩
  rw [← hD]
  obtain ⟨sn, hsn⟩ : ∃ sn, sn = lc + rc := ⟨_, rfl⟩
  have esn : (lc : Int) + (rc : Int) = (sn : Int) := by omega
  have al := below_alloc (Below.refl _ w6) (.cells #[.pointer (some ⟨gl, 0, none⟩), .pointer (some ⟨gr, 0, none⟩), .string ⟨#[]⟩, .string ⟨#[]⟩, .slice none 0 0, .string D, .int .i64 (sn : Int)] 299)
  have gb := heap_alloc_new w6 (.cells #[.pointer (some ⟨gl, 0, none⟩), .pointer (some ⟨gr, 0, none⟩), .string ⟨#[]⟩, .string ⟨#[]⟩, .slice none 0 0, .string D, .int .i64 (sn : Int)] 299)
  have FIN : Hid (Tree (w6.alloc (.cells #[.pointer (some ⟨gl, 0, none⟩), .pointer (some ⟨gr, 0, none⟩), .string ⟨#[]⟩, .string ⟨#[]⟩, .slice none 0 0, .string D, .int .i64 (sn : Int)] 299)) (.pointer (some ⟨w6.heap.size, 0, none⟩)) (.node l r)) := hid (by
    refine ⟨w6.heap.size, .pointer (some ⟨gl, 0, none⟩), .pointer (some ⟨gr, 0, none⟩), rfl, by simp, ?_, Tree.below LL.out al, Tree.below RR.out al⟩
    rw [gb, hD, hsn, CN.out.1, CN.out.2]
    rfl)
  have B7 := hid (below_then BB.out al)
  clear al gb hD hsn
  try rw [esn]
  clear esn
  go_wp2
  go_ret
  exact ⟨_, rfl, FIN.out, B7.out⟩
set_option maxHeartbeats 3200000 in
theorem join_nils {w : World} : Calls Tryz.prog 232 #[.pointer none, .pointer none] w (Grew w .nil) := by
  have H1 : Hid (Calls Tryz.prog 260 #[.pointer none] w fun e w' => e = .returned (.int .i64 0) ∧ w = w') := hid (len_any (Tree.nil w))
  have HS := hid (single_nil (w := w))
  go_enter Tryz.func232, Tryz.ntmps232
  go_wp2_with fail
  refine H1.out.mono ?_
  rintro e w1 ⟨rfl, rfl⟩
  go_wp2_with fail
  refine H1.out.mono ?_
  rintro e w1 ⟨rfl, rfl⟩
  go_wp2_with fail
  refine HS.out.mono ?_
  rintro e w1 ⟨rfl, rfl⟩
  go_wp2_with fail
  refine HS.out.mono ?_
  rintro e w1 ⟨rfl, rfl⟩
  go_wp2
  go_ret
  exact ⟨_, rfl, Tree.nil w, Below.refl _ _⟩
set_option maxHeartbeats 3200000 in
theorem join_nil_leaf {w : World} {gr : Nat} {x : Itm} (hr : Tree w (.pointer (some ⟨gr, 0, none⟩)) (.leaf x)) : Calls Tryz.prog 232 #[.pointer none, .pointer (some ⟨gr, 0, none⟩)] w (Grew w (.leaf x)) := by
  have H1 : Hid (Calls Tryz.prog 260 #[.pointer none] w fun e w' => e = .returned (.int .i64 0) ∧ w = w') := hid (len_any (Tree.nil w))
  have H2 := hid (len_any hr)
  have HS := hid (single_leaf hr)
  have RR := hid hr
  clear hr
  go_enter Tryz.func232, Tryz.ntmps232
  go_wp2_with fail
  refine H1.out.mono ?_
  rintro e w1 ⟨rfl, rfl⟩
  go_wp2_with fail
  refine H2.out.mono ?_
  rintro e w1 ⟨rfl, rfl⟩
  go_wp2_with fail
  refine HS.out.mono ?_
  rintro e w1 ⟨rfl, rfl⟩
  go_wp2
  go_ret
  exact ⟨_, rfl, RR.out, Below.refl _ _⟩
set_option maxHeartbeats 3200000 in
theorem join_leaf_nil {w : World} {gl : Nat} {x : Itm} (hl : Tree w (.pointer (some ⟨gl, 0, none⟩)) (.leaf x)) : Calls Tryz.prog 232 #[.pointer (some ⟨gl, 0, none⟩), .pointer none] w (Grew w (.leaf x)) := by
  have H1 : Hid (Calls Tryz.prog 260 #[.pointer none] w fun e w' => e = .returned (.int .i64 0) ∧ w = w') := hid (len_any (Tree.nil w))
  have H2 := hid (len_any hl)
  have HS := hid (single_leaf hl)
  have RR := hid hl
  clear hl
  go_enter Tryz.func232, Tryz.ntmps232
  go_wp2_with fail
  refine H2.out.mono ?_
  rintro e w1 ⟨rfl, rfl⟩
  go_wp2_with fail
  refine H1.out.mono ?_
  rintro e w1 ⟨rfl, rfl⟩
  go_wp2_with fail
  refine HS.out.mono ?_
  rintro e w1 ⟨rfl, rfl⟩
  go_wp2
  go_ret
  exact ⟨_, rfl, RR.out, Below.refl _ _⟩
theorem joinT_any {w : World} (hT : Table w) {vl vr : Value} {l r : Tr} (hl : Tree w vl l) (hr : Tree w vr r) (fl : Fine l) (fr : Fine r) :
    Calls Tryz.prog 232 #[vl, vr] w (Grew w (joinT l r)) := by
  have pos : ∀ t : Tr, t.Wf → t ≠ .nil → 0 < t.count := by
    intro t ht hn
    cases t with
    | nil => exact absurd rfl hn
    | leaf x => exact Nat.one_pos
    | node a b => exact ht.1
  rcases TreeAt.ptr hl with ⟨rfl, rfl⟩ | ⟨gl, rfl, nl⟩
  · rcases TreeAt.ptr hr with ⟨rfl, rfl⟩ | ⟨gr, rfl, nr⟩
    · exact join_nils
    · cases r with
      | nil => exact absurd rfl nr
      | leaf x => exact join_nil_leaf hr
      | node a b => exact join_nil_some (gl := 0) hT hl hr (.inl rfl) (.inl rfl) (by have := pos _ fr.1 nr; omega) fl.2 fr.2
  · rcases TreeAt.ptr hr with ⟨rfl, rfl⟩ | ⟨gr, rfl, nr⟩
    · cases l with
      | nil => exact absurd rfl nl
      | leaf x => exact join_leaf_nil hl
      | node a b => exact join_some_nil (gr := 0) hT hl hr (.inl rfl) (.inl rfl) (by have := pos _ fl.1 nl; omega) fl.2 fr.2
    · have e : joinT l r = .node l r := by
        cases l with
        | nil => exact absurd rfl nl
        | leaf x => cases r with
          | nil => exact absurd rfl nr
          | leaf y => rfl
          | node a b => rfl
        | node a b => rfl
      rw [e]
      exact join_some hT hl hr (.inr trivial) (.inr trivial) (by have := pos _ fl.1 nl; omega) fl.2 fr.2
set_option maxHeartbeats 3200000 in
theorem with_any {w : World} (hT : Table w) {v vx : Value} {l r x : Tr} {k : ByteArray} {d : Nat} (hd : d ≤ 1000000) (h : Tree w v (.node l r)) (hx : Tree w vx x) (fl : Fine l) (fr : Fine r) (fx : Fine x) :
    Calls Tryz.prog 207 #[v, .string (pathS k), .int .i64 (d : Int), vx] w (Grew w (if btK k d = 0 then joinT x r else joinT l x)) := by
  have H := hid (bitK_any (w := w) (k := k) hd)
  obtain ⟨g, vl, vr, rfl, _, h3, h4, h5⟩ := h
  obtain ⟨c0, c1, -, -, -, -, -⟩ := seven h3
  have J1 := hid (joinT_any hT hx h5 fx fr)
  have J2 := hid (joinT_any hT h4 hx fl fx)
  obtain ⟨b, hb⟩ : ∃ b, b = btK k d := ⟨_, rfl⟩
  have b2 := btK_two k d
  rw [← hb] at H b2 ⊢
  obtain ⟨P, hP⟩ : ∃ P, P = pathS k := ⟨_, rfl⟩
  rw [← hP] at H ⊢
  clear h3 h4 h5 hb hP hT hx
  rcases b2 with rfl | rfl
  · go_enter Tryz.func207, Tryz.ntmps207
    go_wp2_with fail
    refine H.out.mono ?_
    rintro e w1 ⟨rfl, rfl⟩
    go_wp2_with fail
    refine J1.out.mono ?_
    rintro e w1 ⟨v', rfl, t1, b1⟩
    go_wp2
    go_ret
    exact ⟨v', rfl, t1, b1⟩
  · go_enter Tryz.func207, Tryz.ntmps207
    go_wp2_with fail
    refine H.out.mono ?_
    rintro e w1 ⟨rfl, rfl⟩
    go_wp2_with fail
    refine J2.out.mono ?_
    rintro e w1 ⟨v', rfl, t1, b1⟩
    go_wp2
    go_ret
    exact ⟨v', rfl, t1, b1⟩
end Go.Proofs.YtnidgljkbmceaaaGreatDoor
