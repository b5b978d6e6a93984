/- TopSkew: snapshots, no more: two that read what the other writes, and write unlike keys, may both commit. For every two numbers, together or one behind the other. (printed by gen_sk.py) -/
import Derived.Test.YtnidgljkbmceaaaGreatDoorG32
set_option linter.unusedVariables false
set_option linter.unusedSimpArgs false
namespace Go.Proofs.YtnidgljkbmceaaaGreatDoor
open Go.RowKit PrintLast Go.Maps Go.MapKept

set_option maxRecDepth 100000 in
set_option maxHeartbeats 12800000 in
theorem topskew_walk {w : World} (hT : Table w) {a b : Int} {tg : Bool} (ha : (Lit.int .u8 a).wf = true) (hb : (Lit.int .u8 b).wf = true) :
    Calls Tryz.prog 3 #[.int .u8 a, .int .u8 b, .bool tg] w fun e w' => e = .returned (.bool true) ∧ Below w.heap.size w w' := by
  obtain ⟨na, rfl, hna⟩ : ∃ n : Nat, a = (n : Int) ∧ n < 256 := ⟨a.toNat, by have := bounds_u8 ha; omega, by have := bounds_u8 ha; omega⟩
  obtain ⟨nb, rfl, hnb⟩ : ∃ n : Nat, b = (n : Int) ∧ n < 256 := ⟨b.toNat, by have := bounds_u8 hb; omega, by have := bounds_u8 hb; omega⟩
  have TT := hid hT
  have NN := hid (And.intro hna hnb)
  have wa1 : wrap64 (na : Int) = (na : Int) := by unfold wrap64; omega
  have wb1 : wrap64 (nb : Int) = (nb : Int) := by unfold wrap64; omega
  have wb : wrap64 ((nb : Int) + 300) = ((nb : Int) + 300) := by unfold wrap64; omega
  clear ha hb hT hna hnb
  go_enter Tryz.func3, Tryz.ntmps3
  have H1 := hid (awake_any TT.out)
  go_wp2_with fail
  refine H1.out.mono ?_
  rintro e w1 ⟨rfl, b1⟩
  clear H1
  have H2 := hid (tables_k (w := w1))
  go_wp2_with fail
  refine H2.out.mono ?_
  rintro e w2 ⟨T, C, c, rfl, t2, b2⟩
  clear H2
  have H3 := hid (dnew_k (w := w2))
  go_wp2_with fail
  refine H3.out.mono ?_
  rintro e w3 ⟨D, rfl, d3, zD, b3⟩
  clear H3
  have B3 := hid (below_then (below_then b1 b2) b3)
  have T3 := hid (t2.below b3)
  have ZD := hid (Nat.le_trans (below_then b1 b2).size zD)
  have H4 := hid (open_k (c := c) (TT.out.below B3.out) T3.out.1 d3)
  go_wp2_with fail
  refine H4.out.mono ?_
  rintro e w4 ⟨E, L, P, Q, G, S, SM, O, R, rfl, nk, zz, b4⟩
  clear H4
  have B4 := hid (below_then B3.out b4)
  have T4 := hid (T3.out.below b4)
  have NK := hid (And.intro nk (And.intro zz B3.out.size))
  clear b1 b2 b3 b4 t2 d3 zD nk zz B3 T3
  obtain ⟨X, hX⟩ : ∃ y, y = w4.heap.size := ⟨_, rfl⟩
  obtain ⟨Y, hY⟩ : ∃ y, y = w4.heap.size + 1 := ⟨_, rfl⟩
  obtain ⟨w5, hw5⟩ : ∃ y, y = (w4.alloc (.cells #[.int .u8 1, .int .i64 (na : Int), .string ⟨#[]⟩] 32)).alloc (.cells #[.int .u8 1, .int .i64 ((nb : Int) + 300), .string ⟨#[]⟩] 32) := ⟨_, rfl⟩
  have b5 : Below w4.heap.size w4 w5 := by rw [hw5]; exact below_alloc (below_alloc (Below.refl _ _) _) _
  have hx5 := heap_alloc2_old w4 (.cells #[.int .u8 1, .int .i64 (na : Int), .string ⟨#[]⟩] 32) (.cells #[.int .u8 1, .int .i64 ((nb : Int) + 300), .string ⟨#[]⟩] 32)
  have hy5 := heap_alloc2_new w4 (.cells #[.int .u8 1, .int .i64 (na : Int), .string ⟨#[]⟩] 32) (.cells #[.int .u8 1, .int .i64 ((nb : Int) + 300), .string ⟨#[]⟩] 32)
  rw [← hw5, ← hX] at hx5
  rw [← hw5, ← hY] at hy5
  have W5 := hid (And.intro hX (And.intro hY hw5))
  have B5 := hid b5
  have XY := hid (show ValsAt w5 X na ∧ ValsAt w5 Y (nb + 300) from ⟨⟨_, hx5, rfl, rfl, rfl⟩, ⟨_, hy5, rfl, rfl, rfl⟩⟩)
  clear hX hY hw5 b5 hx5 hy5
  go_upto_region 5 with fail
  simp only [wa1, wb1, wb]
  rw [← W5.out.2.2, ← W5.out.2.1, ← W5.out.1]
  clear W5 wa1 wb1 wb
  obtain ⟨x, e1, e2, e3, e4, e5, e6, e7, e8, e9, eT, ec, eC, eR, erc, eX, eY, ena, enb, eB⟩ : ∃ x : Fx, x.E = E ∧ x.L = L ∧ x.P = P ∧ x.Q = Q ∧ x.lg = G ∧ x.dk = D ∧ x.S = S ∧ x.SM = SM ∧ x.O = O ∧ x.Tb = T ∧ x.tc = c ∧ x.C = C ∧ x.R = R ∧ x.rc = 1 ∧ x.X = X ∧ x.Y = Y ∧ x.na = na ∧ x.nb = nb ∧ x.B0 = w.heap.size := ⟨⟨w.heap.size, E, L, P, Q, G, D, S, SM, O, T, c, C, R, 1, X, Y, na, nb⟩, rfl, rfl, rfl, rfl, rfl, rfl, rfl, rfl, rfl, rfl, rfl, rfl, rfl, rfl, rfl, rfl, rfl, rfl, rfl⟩
  subst e1 e2 e3 e4 e5 e6 e7 e8 e9 eT ec eC eR eX eY ena enb
  have LO : Hid x.Low := hid (by
    obtain ⟨nk, ⟨z1, z2, z3, z4, z5, z6, z7, z8, z9⟩, z0⟩ := NK.out
    have zd := ZD.out
    exact ⟨by omega, by omega, by omega, by omega, by omega, by omega, by omega, by omega, by omega, by omega, nk.ap, NN.out.1, NN.out.2⟩)
  have BB : Hid (Below x.B0 w w5) := hid (by rw [eB]; exact below_then B4.out B5.out)
  have ST : Hid (St x w5 0 #[] 0 cli0 cli0 0 0 (quC 0 0 0 0 0 0)) := hid (by
    have nk := NK.out.1.below B5.out
    have tb : TabB x.B0 w5 := by rw [eB]; exact ⟨(below_then B4.out B5.out).size, fun w' h => TT.out.below ((below_then B4.out B5.out).trans h)⟩
    exact ⟨⟨tb, nk.sto, nk.smap, by rw [erc]; exact nk.sta, T4.out.below B5.out, nk.log, nk.grp, XY.out.1, XY.out.2⟩, by rw [erc]; exact nk.led, nk.opn, ⟨_, nk.eng, ⟨[], World.ownsRow_nil _ _ _ _⟩, fun k h => by cases h⟩, nk.que⟩)
  have EB := hid eB
  clear NK ZD B4 B5 T4 XY eB erc TT NN
  have H5 := hid (sbegin_0 LO.out ST.out rfl rfl (by omega) rfl (by omega) (by omega))
  go_wp2_with fail
  refine H5.out.mono ?_
  rintro e w6 ⟨rfl, T1, M1, st, x1, m1, z1, y1, k1, b1⟩
  clear H5
  have O5 := lt_of_block ST.out.opn
  have S5 := lt_of_block ST.out.base.smap
  have P5 := ST.out.base.tab.1
  have Z1 := hid (show x.O < M1 ∧ x.SM < M1 ∧ x.B0 ≤ M1 by omega)
  replace ST := hid (show St x w6 1 #[en1 T1] 1 ⟨1, 0, false, 0, false⟩ cli0 1 1 (quC 0 0 0 0 0 0) from st)
  replace BB := hid (BB.out.trans b1)
  have F1 := hid (And.intro x1 m1)
  clear st x1 m1 z1 y1 k1 b1 O5 S5 P5
  have H5 := hid (sbegin_1 LO.out ST.out rfl rfl (by omega) rfl (by omega) (by omega))
  go_wp2_with fail
  refine H5.out.mono ?_
  rintro e w7 ⟨rfl, T2, M2, st, x2, m2, z2, y2, k2, b2⟩
  clear H5
  have O5 := lt_of_block ST.out.opn
  have S5 := lt_of_block ST.out.base.smap
  have P5 := ST.out.base.tab.1
  have M5 := lt_of_block F1.out.2
  have Z2 := hid (show x.O < M2 ∧ x.SM < M2 ∧ x.B0 ≤ M2 ∧ M1 < M2 by omega)
  replace ST := hid (show St x w7 2 #[en1 T1, en2 T2] 2 ⟨1, 0, false, 0, false⟩ c2t 2 2 (quC 0 0 0 0 0 0) from st)
  replace BB := hid (BB.out.trans b2)
  replace F1 := hid (And.intro (k2.cells F1.out.1 (by decide)) (k2.map F1.out.2 (by have := Z1.out; simp; omega)))
  have F2 := hid (And.intro x2 m2)
  clear st x2 m2 z2 y2 k2 b2 O5 S5 P5 M5
  have H5 := hid (sget_0 LO.out ST.out rfl (by decide) rfl (i := 0) (T := T1) rfl F1.out.1 F1.out.2 (by omega) (by omega))
  go_wp2_with fail
  refine H5.out.mono ?_
  rintro e w8 ⟨rfl, st, k3, b3⟩
  clear H5
  replace ST := hid (show St x w8 2 #[en1 T1, en2 T2] 2 ⟨1, 0, false, 0, false⟩ c2t 3 3 (quC 0 0 0 0 0 0) from st)
  replace BB := hid (BB.out.trans b3)
  replace F1 := hid (And.intro (k3.cells F1.out.1 (by decide)) (k3.map F1.out.2 (by simp)))
  replace F2 := hid (And.intro (k3.cells F2.out.1 (by decide)) (k3.map F2.out.2 (by simp)))
  clear st k3 b3
  have H5 := hid (sget_1 LO.out ST.out rfl (by decide) rfl (i := 1) (T := T2) rfl F2.out.1 F2.out.2 (by omega) (by omega))
  go_wp2_with fail
  refine H5.out.mono ?_
  rintro e w9 ⟨rfl, st, k3, b3⟩
  clear H5
  replace ST := hid (show St x w9 2 #[en1 T1, en2 T2] 2 ⟨1, 0, false, 0, false⟩ c2t 4 4 (quC 0 0 0 0 0 0) from st)
  replace BB := hid (BB.out.trans b3)
  replace F1 := hid (And.intro (k3.cells F1.out.1 (by decide)) (k3.map F1.out.2 (by simp)))
  replace F2 := hid (And.intro (k3.cells F2.out.1 (by decide)) (k3.map F2.out.2 (by simp)))
  clear st k3 b3
  have H5 := hid (sput_0 LO.out ST.out rfl (by decide) rfl (i := 0) (T := T1) rfl F1.out.1 F1.out.2 Z1.out.2.2 (by have := Z1.out; omega) (by omega) (by omega))
  go_wp2_with fail
  refine H5.out.mono ?_
  rintro e w10 ⟨rfl, st, pz, k3, b3⟩
  clear H5
  replace ST := hid (show St x w10 2 #[en1 T1, en2 T2] 2 ⟨1, 0, false, 0, false⟩ c2t 5 5 (quC 0 0 0 0 0 0) from st)
  replace BB := hid (BB.out.trans b3)
  obtain ⟨r1, p1, o1⟩ := pz
  have G1 := hid (show TxOk w10 (tx1 x T1 M1 r1) from ⟨k3.cells F1.out.1 (by decide), p1, o1, (k_size _).2, Nat.le_trans (r_len _) (by omega)⟩)
  replace F2 := hid (And.intro (k3.cells F2.out.1 (by decide)) (k3.map F2.out.2 (by have := Z2.out; simp; omega)))
  clear st k3 b3 p1 o1 F1
  have H5 := hid (sput_1 LO.out ST.out rfl (by decide) rfl (i := 1) (T := T2) rfl F2.out.1 F2.out.2 Z2.out.2.2.1 (by have := Z2.out; omega) (by omega) (by omega))
  go_wp2_with fail
  refine H5.out.mono ?_
  rintro e w11 ⟨rfl, st, pz, k3, b3⟩
  clear H5
  replace ST := hid (show St x w11 2 #[en1 T1, en2 T2] 2 ⟨1, 0, false, 0, false⟩ c2t 6 6 (quC 0 0 0 0 0 0) from st)
  replace BB := hid (BB.out.trans b3)
  obtain ⟨r2, p2, o2⟩ := pz
  have G2 := hid (show TxOk w11 (tx2 x T2 M2 r2) from ⟨k3.cells F2.out.1 (by decide), p2, o2, (k_size _).2, Nat.le_trans (r_len _) (by omega)⟩)
  replace G1 := hid (show TxOk w11 (tx1 x T1 M1 r1) from ⟨k3.cells G1.out.tx (by decide), k3.map G1.out.map (by have := Z2.out; simp; show M1 ≠ M2; omega), G1.out.row.keeps k3 (by decide) (fun _ _ q => by cases q), G1.out.key, G1.out.len⟩)
  have Z3 := hid (show x.O < M2 ∧ x.SM < M2 from ⟨Z2.out.1, Z2.out.2.1⟩)
  clear st k3 b3 p2 o2 F2 Z1 Z2
  have H5 := hid (scommit_0 (qb := quC 1 0 0 0 0 1) LO.out ST.out.eng ST.out.led ST.out.opn ST.out.base.grp ST.out.que ST.out.base.tab.1 (id := 1) rfl (by decide) rfl (i := 0) (T := T1) rfl G1.out (by omega) (by omega) (fun _ h => qhas_none h) (fun _ h => qpush_00 h))
  go_wp2_with fail
  refine H5.out.mono ?_
  rintro e w12 ⟨rfl, en, qu, k3, b3⟩
  clear H5
  have EN := hid (show EngH w12 x.B0 x.E x.L x.P c1w c2t 7 7 from en)
  have BS := hid (And.intro (ST.out.base.keeps k3 b3 (by decide) (by simp)) (And.intro (k3.cells ST.out.led (by decide)) (And.intro (k3.map ST.out.opn (by simp)) qu)))
  replace BB := hid (BB.out.trans b3)
  replace G1 := hid (show TxOk w12 (tx1 x T1 M1 r1) from ⟨k3.cells G1.out.tx (by decide), k3.map G1.out.map (by simp), G1.out.row.keeps k3 (by decide) (fun _ _ q => by cases q), G1.out.key, G1.out.len⟩)
  replace G2 := hid (show TxOk w12 (tx2 x T2 M2 r2) from ⟨k3.cells G2.out.tx (by decide), k3.map G2.out.map (by simp), G2.out.row.keeps k3 (by decide) (fun _ _ q => by cases q), G2.out.key, G2.out.len⟩)
  clear en qu k3 b3 ST
  cases tg with
  | true =>
    have H5 := hid (scommit_1 (qb := quC 1 2 0 0 0 2) LO.out EN.out BS.out.2.1 BS.out.2.2.1 BS.out.1.grp BS.out.2.2.2 BS.out.1.tab.1 (id := 2) rfl (by decide) rfl (i := 1) (T := T2) rfl G2.out (by omega) (by omega) (fun _ h => qhas_one h (by decide)) (fun _ h => qpush_01 h))
    go_wp2_with fail
    refine H5.out.mono ?_
    rintro e w13 ⟨rfl, en, qu, k3, b3⟩
    clear H5
    replace EN := hid (show EngH w13 x.B0 x.E x.L x.P c1w c2w 8 8 from en)
    replace BS := hid (And.intro (BS.out.1.keeps k3 b3 (by decide) (by simp)) (And.intro (k3.cells BS.out.2.1 (by decide)) (And.intro (k3.map BS.out.2.2.1 (by simp)) qu)))
    replace BB := hid (BB.out.trans b3)
    replace G1 := hid (show TxOk w13 (tx1 x T1 M1 r1) from ⟨k3.cells G1.out.tx (by decide), k3.map G1.out.map (by simp), G1.out.row.keeps k3 (by decide) (fun _ _ q => by cases q), G1.out.key, G1.out.len⟩)
    replace G2 := hid (show TxOk w13 (tx2 x T2 M2 r2) from ⟨k3.cells G2.out.tx (by decide), k3.map G2.out.map (by simp), G2.out.row.keeps k3 (by decide) (fun _ _ q => by cases q), G2.out.key, G2.out.len⟩)
    clear en qu k3 b3
    have H5 := hid (settleT LO.out BS.out.1 BS.out.2.1 BS.out.2.2.1 G1.out G2.out EN.out BS.out.2.2.2)
    go_wp2_with fail
    refine H5.out.mono ?_
    rintro e w14 ⟨⟨vv, rfl⟩, s⟩
    clear H5
    obtain ⟨lo', R', rc', tv', ch, rr, I, J, c1, c2, A, A2, wv, p, rlo, lg, r1o, ⟨hv, hE, -, -⟩, hQ, hP, hA, cap, ids, told, kt, bl⟩ := s
    have FE := hid (show w14.heap[x.E]? = some (.cells (engS x.L x.P wokeC wokeC hv _) 64 (0, 0)) from hE)
    have FL := hid p.led
    have FS := hid (show w14.heap[x.S]? = some (.cells (stoC x.SM 1) 137 (0, 0)) from p.sto)
    replace BB := hid (BB.out.trans bl)
    have FZ := hid (Nat.le_trans BS.out.1.tab.1 kt.size)
    clear p rlo lg r1o hE hQ hP hA cap ids told kt bl EN BS G1 G2
    have H5 := hid (eans_0 FE.out rfl rfl)
    go_wp2_with fail
    refine H5.out.mono ?_
    rintro e v1 ⟨rfl, en, k3⟩
    clear H5
    have E1 := hid en
    have FB := hid (And.intro (k3.1.cells FL.out (by decide)) (k3.1.cells FS.out (by decide)))
    replace BB := hid (BB.out.trans (k3.2 x.B0 FZ.out (by simpa using LO.out.e)))
    replace FZ := hid (Nat.le_trans FZ.out k3.1.size)
    clear en k3 FE FL FS
    unfold okV
    obtain ⟨v2, hv2⟩ : ∃ y, y = v1.alloc (.cells #[.int .i64 0, .bool false, .slice none 0 0, .slice none 0 0, .slice none 0 0] 38) := ⟨_, rfl⟩
    obtain ⟨A1, hA1⟩ : ∃ y, y = v1.heap.size := ⟨_, rfl⟩
    have b2 : Below v1.heap.size v1 v2 := by rw [hv2]; exact below_alloc (Below.refl _ _) _
    have g2 : v2.heap[A1]? = some (.cells #[.int .i64 0, .bool false, .slice none 0 0, .slice none 0 0, .slice none 0 0] 38 (0, 0)) := by rw [hv2, hA1]; exact heap_alloc_new _ _
    have W2 := hid (And.intro hv2 hA1)
    have G3 := hid g2
    replace E1 := hid (below_heap b2 E1.out)
    replace FB := hid (And.intro (below_heap b2 FB.out.1) (below_heap b2 FB.out.2))
    replace BB := hid (BB.out.trans (b2.mono FZ.out))
    replace FZ := hid (Nat.le_trans FZ.out b2.size)
    clear hv2 hA1 b2 g2
    go_upto_region 17 with fail
    rw [← W2.out.1, ← W2.out.2]
    clear W2
    have H5 := hid (eans_1 E1.out rfl rfl)
    go_wp2_with fail
    refine H5.out.mono ?_
    rintro e v3 ⟨rfl, en, k3⟩
    clear H5
    replace E1 := hid en
    replace FB := hid (And.intro (k3.1.cells FB.out.1 (by decide)) (k3.1.cells FB.out.2 (by decide)))
    replace G3 := hid (k3.1.cells G3.out (by decide))
    replace BB := hid (BB.out.trans (k3.2 x.B0 FZ.out (by simpa using LO.out.e)))
    replace FZ := hid (Nat.le_trans FZ.out k3.1.size)
    clear en k3
    unfold okV
    obtain ⟨v4, hv4⟩ : ∃ y, y = v3.alloc (.cells #[.int .i64 0, .bool false, .slice none 0 0, .slice none 0 0, .slice none 0 0] 38) := ⟨_, rfl⟩
    obtain ⟨A2, hA2⟩ : ∃ y, y = v3.heap.size := ⟨_, rfl⟩
    have b4 : Below v3.heap.size v3 v4 := by rw [hv4]; exact below_alloc (Below.refl _ _) _
    have g4 : v4.heap[A2]? = some (.cells #[.int .i64 0, .bool false, .slice none 0 0, .slice none 0 0, .slice none 0 0] 38 (0, 0)) := by rw [hv4, hA2]; exact heap_alloc_new _ _
    have W4 := hid (And.intro hv4 hA2)
    have h3 := below_heap b4 G3.out
    have HB := hid (batches_k (below_heap b4 E1.out) (below_heap b4 FB.out.1) (below_heap b4 FB.out.2))
    replace BB := hid (BB.out.trans (b4.mono FZ.out))
    have c1 := cell_at h3 (i := 0) (v := .int .i64 0) rfl
    have c2 := cell_at g4 (i := 0) (v := .int .i64 0) rfl
    clear hv4 hA2 b4 g4 h3 G3 FB E1 FZ
    go_upto_region 18 with fail
    rw [← W4.out.1, ← W4.out.2]
    clear W4
    go_wp2_with fail
    refine HB.out.mono ?_
    rintro e v5 ⟨rfl, rfl⟩
    have BF := hid (show Below w.heap.size w v4 by rw [← EB.out]; exact BB.out)
    clear HB BB
    go_wp2
    go_ret
    exact ⟨rfl, BF.out⟩
  | false =>
    have H5 := hid (settleA LO.out BS.out.1 BS.out.2.1 BS.out.2.2.1 G1.out G2.out.tx EN.out BS.out.2.2.2)
    go_wp2_with fail
    refine H5.out.mono ?_
    rintro e w13 ⟨⟨vv, rfl⟩, s⟩
    clear H5
    obtain ⟨lo', R', rc', tv', ch, rr, I, J, c1, c2, A, A2, wv, p, rlo, lg, r1o, en, hQ, hP, hA, cap, ids, told, kt, bl⟩ := s
    obtain ⟨Ch, rfl⟩ := list_one (show ch.length = 1 from p.len)
    have tbz := BS.out.1.tab.1
    have TB := hid (show TabB x.B0 w13 from BS.out.1.tab.low bl)
    replace BB := hid (BB.out.trans bl)
    replace G2 := hid (show TxOk w13 (tx2 x T2 M2 r2) from ⟨kt.cells G2.out.tx (by decide), kt.map G2.out.map (by have := Z3.out; simp; show M2 ≠ x.O ∧ M2 ≠ x.SM; omega), G2.out.row.keeps kt (by decide) (fun _ _ q => by cases q), G2.out.key, G2.out.len⟩)
    have c0 := p.chs 0 (by simp)
    have PP := hid (show (w13.heap[x.L]? = some (.cells (ledC x.Tb x.tc x.S x.O 2 R' 2 rc') 95 (0, 0)) ∧ StAt w13 R' 2 rc' tv' ∧ LeafK w13 (.pointer tv') (keyS x.na) (rowN x.na) lo' ∧ w13.heap[x.S]? = some (.cells (stoC x.SM 1) 137 (0, 0)) ∧ w13.heap[x.SM]? = some (.map #[entS (keyS x.na) (.pointer (some ⟨Ch, 0, none⟩)) 0] 1) ∧ ChainK w13 Ch 1) ∧ w13.heap[x.O]? = some (.map #[en2 T2] 2) ∧ LogK w13 x.dk x.lg rr 1 ∧ w13.heap[x.P]? = some (.cells (grpC x.L x.lg x.Q 0 (.slice A 0 c1) (.slice A2 0 c2) 1 wv) 113 (0, 0)) ∧ w13.heap[x.Q]? = some (.cells (quC 1 0 0 0 1 0) 160 (0, 0)) from ⟨⟨p.led, p.sta, p.tf, p.sto, p.smap, c0.1⟩, p.opn, lg, hP, hQ⟩)
    have LW := hid (show x.B0 ≤ R' ∧ x.B0 ≤ Ch ∧ (∀ k, rr = some k → k < lo') ∧ (∀ k, rr = some k → x.B0 ≤ k) ∧ x.B0 ≤ w13.heap.size from ⟨p.lowR, Nat.le_trans tbz c0.2, rlo, fun k hk => (r1o k hk).elim (fun q => by cases q) (fun q => Nat.le_trans tbz q), TB.out.1⟩)
    replace EN := hid (show EngH w13 x.B0 x.E x.L x.P wokeC c2t 7 13 from en)
    clear p rlo lg r1o hQ hP hA cap ids told kt bl c0 tbz en G1 BS
    have H5 := hid (scommit_1 (qb := quC 1 2 0 0 1 1) LO.out EN.out PP.out.1.1 PP.out.2.1 PP.out.2.2.2.1 PP.out.2.2.2.2 LW.out.2.2.2.2 (id := 2) rfl (by decide) rfl (i := 0) (T := T2) rfl G2.out (by omega) (by omega) (fun _ h => qhas_none h) (fun _ h => qpush_10 h))
    go_wp2_with fail
    refine H5.out.mono ?_
    rintro e w14 ⟨rfl, en, qu, k3, b3⟩
    clear H5
    replace EN := hid (show EngH w14 x.B0 x.E x.L x.P wokeC c2w 8 14 from en)
    replace TB := hid (TB.out.low b3)
    replace BB := hid (BB.out.trans b3)
    replace G2 := hid (show TxOk w14 (tx2 x T2 M2 r2) from ⟨k3.cells G2.out.tx (by decide), k3.map G2.out.map (by simp), G2.out.row.keeps k3 (by decide) (fun _ _ q => by cases q), G2.out.key, G2.out.len⟩)
    replace PP := hid (show (w14.heap[x.L]? = some (.cells (ledC x.Tb x.tc x.S x.O 2 R' 2 rc') 95 (0, 0)) ∧ StAt w14 R' 2 rc' tv' ∧ LeafK w14 (.pointer tv') (keyS x.na) (rowN x.na) lo' ∧ w14.heap[x.S]? = some (.cells (stoC x.SM 1) 137 (0, 0)) ∧ w14.heap[x.SM]? = some (.map #[entS (keyS x.na) (.pointer (some ⟨Ch, 0, none⟩)) 0] 1) ∧ ChainK w14 Ch 1) ∧ w14.heap[x.O]? = some (.map #[en2 T2] 2) ∧ LogK w14 x.dk x.lg rr 1 ∧ w14.heap[x.P]? = some (.cells (grpC x.L x.lg x.Q 0 (.slice A 0 c1) (.slice A2 0 c2) 1 wv) 113 (0, 0)) ∧ w14.heap[x.Q]? = some (.cells (quC 1 2 0 0 1 1) 160 (0, 0)) from by
      obtain ⟨⟨h1, h2, h3, h4, h5, h6⟩, h7, h8, h9, h10⟩ := PP.out
      exact ⟨⟨k3.cells h1 (by decide), h2.keeps k3 (by decide), LeafK.keeps h3 k3 (by decide) (fun _ q => by cases q), k3.cells h4 (by decide), k3.map h5 (by simp), h6.keeps k3 (by decide)⟩, k3.map h7 (by simp), h8.keeps k3 (by decide) (fun _ _ q => by cases q), k3.cells h9 (by decide), qu⟩)
    clear en qu k3 b3
    have H5 := hid (settleB LO.out TB.out PP.out.1.1 PP.out.1.2.1 LW.out.1 PP.out.1.2.2.2.1 PP.out.1.2.2.2.2.1 PP.out.2.1 G2.out PP.out.2.2.1 LW.out.2.2.2.1 PP.out.1.2.2.2.2.2 LW.out.2.1 PP.out.1.2.2.1 LW.out.2.2.1 EN.out PP.out.2.2.2.1 PP.out.2.2.2.2)
    go_wp2_with fail
    refine H5.out.mono ?_
    rintro e w15 ⟨⟨vv2, rfl⟩, s⟩
    clear H5
    obtain ⟨lo2, R2, rc2, tv2, ch, rr2, I2, J2, c3, c4, A3, A4, wv2, p, rlo, lg, r1o, ⟨hv, hE, -, -⟩, hQ, hP, hA, cap, ids, told, kt, bl⟩ := s
    have FE := hid (show w15.heap[x.E]? = some (.cells (engS x.L x.P wokeC wokeC hv _) 64 (0, 0)) from hE)
    have FL := hid p.led
    have FS := hid (show w15.heap[x.S]? = some (.cells (stoC x.SM 2) 137 (0, 0)) from p.sto)
    replace BB := hid (BB.out.trans bl)
    have FZ := hid (Nat.le_trans TB.out.1 kt.size)
    clear p rlo lg r1o hE hQ hP hA cap ids told kt bl EN PP LW G2
    have H5 := hid (eans_0 FE.out rfl rfl)
    go_wp2_with fail
    refine H5.out.mono ?_
    rintro e v1 ⟨rfl, en, k3⟩
    clear H5
    have E1 := hid en
    have FB := hid (And.intro (k3.1.cells FL.out (by decide)) (k3.1.cells FS.out (by decide)))
    replace BB := hid (BB.out.trans (k3.2 x.B0 FZ.out (by simpa using LO.out.e)))
    replace FZ := hid (Nat.le_trans FZ.out k3.1.size)
    clear en k3 FE FL FS
    unfold okV
    obtain ⟨v2, hv2⟩ : ∃ y, y = v1.alloc (.cells #[.int .i64 0, .bool false, .slice none 0 0, .slice none 0 0, .slice none 0 0] 38) := ⟨_, rfl⟩
    obtain ⟨A1, hA1⟩ : ∃ y, y = v1.heap.size := ⟨_, rfl⟩
    have b2 : Below v1.heap.size v1 v2 := by rw [hv2]; exact below_alloc (Below.refl _ _) _
    have g2 : v2.heap[A1]? = some (.cells #[.int .i64 0, .bool false, .slice none 0 0, .slice none 0 0, .slice none 0 0] 38 (0, 0)) := by rw [hv2, hA1]; exact heap_alloc_new _ _
    have W2 := hid (And.intro hv2 hA1)
    have G3 := hid g2
    replace E1 := hid (below_heap b2 E1.out)
    replace FB := hid (And.intro (below_heap b2 FB.out.1) (below_heap b2 FB.out.2))
    replace BB := hid (BB.out.trans (b2.mono FZ.out))
    replace FZ := hid (Nat.le_trans FZ.out b2.size)
    clear hv2 hA1 b2 g2
    go_upto_region 17 with fail
    rw [← W2.out.1, ← W2.out.2]
    clear W2
    have H5 := hid (eans_1 E1.out rfl rfl)
    go_wp2_with fail
    refine H5.out.mono ?_
    rintro e v3 ⟨rfl, en, k3⟩
    clear H5
    replace E1 := hid en
    replace FB := hid (And.intro (k3.1.cells FB.out.1 (by decide)) (k3.1.cells FB.out.2 (by decide)))
    replace G3 := hid (k3.1.cells G3.out (by decide))
    replace BB := hid (BB.out.trans (k3.2 x.B0 FZ.out (by simpa using LO.out.e)))
    replace FZ := hid (Nat.le_trans FZ.out k3.1.size)
    clear en k3
    unfold okV
    obtain ⟨v4, hv4⟩ : ∃ y, y = v3.alloc (.cells #[.int .i64 0, .bool false, .slice none 0 0, .slice none 0 0, .slice none 0 0] 38) := ⟨_, rfl⟩
    obtain ⟨A2, hA2⟩ : ∃ y, y = v3.heap.size := ⟨_, rfl⟩
    have b4 : Below v3.heap.size v3 v4 := by rw [hv4]; exact below_alloc (Below.refl _ _) _
    have g4 : v4.heap[A2]? = some (.cells #[.int .i64 0, .bool false, .slice none 0 0, .slice none 0 0, .slice none 0 0] 38 (0, 0)) := by rw [hv4, hA2]; exact heap_alloc_new _ _
    have W4 := hid (And.intro hv4 hA2)
    have h3 := below_heap b4 G3.out
    have HB := hid (batches_k (below_heap b4 E1.out) (below_heap b4 FB.out.1) (below_heap b4 FB.out.2))
    replace BB := hid (BB.out.trans (b4.mono FZ.out))
    have c1 := cell_at h3 (i := 0) (v := .int .i64 0) rfl
    have c2 := cell_at g4 (i := 0) (v := .int .i64 0) rfl
    clear hv4 hA2 b4 g4 h3 G3 FB E1 FZ
    go_upto_region 18 with fail
    rw [← W4.out.1, ← W4.out.2]
    clear W4
    go_wp2_with fail
    refine HB.out.mono ?_
    rintro e v5 ⟨rfl, rfl⟩
    have BF := hid (show Below w.heap.size w v4 by rw [← EB.out]; exact BB.out)
    clear HB BB
    go_wp2
    go_ret
    exact ⟨rfl, BF.out⟩
end Go.Proofs.YtnidgljkbmceaaaGreatDoor
