/- ChainPlays: whatever is put, asked, let go: what is seen at any number. -/
import Derived.Test.YtlfimleciemobabPairC
import Derived.Test.YtlfimleciemobabActs12
import Derived.Deep.DeepCutAuto
import Derived.Deep.CutBlock
set_option linter.unusedVariables false
set_option linter.unusedSimpArgs false
namespace Go.Proofs.Ytlfimleciemobab
open Go.RowKit PrintLast

theorem tmod_b (z m : Int) (h : 0 < m) : -m < z.tmod m ∧ z.tmod m < m := by
  by_cases hz : 0 ≤ z
  · rw [Int.tmod_eq_emod_of_nonneg hz]
    have h1 := Int.emod_nonneg z (show m ≠ 0 by omega)
    have h2 := Int.emod_lt_of_pos z h
    omega
  · have e : z.tmod m = -((-z).tmod m) := by rw [Int.neg_tmod]; omega
    rw [e, Int.tmod_eq_emod_of_nonneg (by omega)]
    have h1 := Int.emod_nonneg (-z) (show m ≠ 0 by omega)
    have h2 := Int.emod_lt_of_pos (-z) h
    omega

set_option maxRecDepth 100000 in
set_option maxHeartbeats 6400000 in
theorem plays_walk {w : World} {A : Option Addr} {cap : Nat} {l : List DAct} {few : Bool} (h0 : l.length ≤ cap ∧ cap ≤ maxLen ∧ ActsAt w A l) :
    Calls Try.prog 5 #[.slice A l.length cap, .bool few] w fun e w' => e = .returned (.bool true) ∧ Below w.heap.size w w' := by
  obtain ⟨hl, hm, h⟩ := h0
  unfold maxLen at hm
  by_cases h1 : 60 < l.length
  · have t1 : decide ((60 : Int) < (l.length : Int)) = true := by simp; omega
    go_enter Try.func5, Try.ntmps5
    go_wp2_with fail
    refine gone_any.mono ?_
    rintro e w1 ⟨rfl, hb1⟩
    go_wp2_with fail
    refine gone_any.mono ?_
    rintro e w2 ⟨rfl, hb2⟩
    go_wp2
    go_ret
    exact ⟨rfl, below_then hb1 hb2⟩
  · have t1 : decide ((60 : Int) < (l.length : Int)) = false := by simp; omega
    go_enter Try.func5, Try.ntmps5
    go_wp2_with fail
    refine gone_any.mono ?_
    rintro e w1 ⟨rfl, b1⟩
    have s1 := b1.size
    go_wp2_with fail
    refine new_any.mono ?_
    rintro e w2 ⟨rfl, d2, b2⟩
    have s2 := d2.2.1 _ rfl
    have b12 := below_then b1 b2
    have P0 : Both (w2.alloc (.cells #[.slice none 0 0, .int .i64 0] 38)) w.heap.size w1.heap.size w2.heap.size [] 0 :=
      ⟨_, fun _ => False, none, 0, d2.below (below_alloc (Below.refl _ w2) _), RdAt.nil _ _, heap_alloc_new _ _, fun k hk => by omega, fun k hk => hk.elim, by omega, by omega⟩
    have hb := below_alloc b12 (.cells #[.slice none 0 0, .int .i64 0] 38)
    obtain ⟨b, hb0⟩ : ∃ b, b = w1.heap.size := ⟨_, rfl⟩
    rw [← hb0] at P0
    simp only [← hb0]
    have sw2 := b12.size
    clear d2 b1 b2 b12 hb0
    go_wp2
    go_loopw [7] (fun i wr => ∃ k : Nat, k ≤ l.length ∧ i = .int .i64 k ∧ Below w.heap.size w wr ∧ ∃ vs last, Both wr w.heap.size b w2.heap.size vs last ∧ Good vs last ∧ vs.length ≤ k) (fun i _ => l.length - (intOf i).toNat)
    case atStart => exact ⟨0, Nat.zero_le _, rfl, hb, [], 0, P0, Good.nil, Nat.le_refl _⟩
    case round =>
      clear hb P0
      obtain ⟨k, hk, rfl, hb, vs, last, d, hg, hvk⟩ := hrel
      by_cases hlt : k < l.length
      · obtain ⟨ab, ao, B, c, rfl, y0, y1, y2, bp, hn⟩ := h.at_ k hlt
        have s0 := hb.size
        have x0 := below_cell hb y0
        have x1 := below_cell hb y1
        have x2 := below_cell hb y2
        by_cases h30 : 30 < l[k].p.length
        · have t30 : decide ((30 : Int) < (l[k].p.length : Int)) = true := by simp; omega
          go_wp2
          go_ret
          exact ⟨rfl, hb.alloc s0 _⟩
        · have t30 : decide ((30 : Int) < (l[k].p.length : Int)) = false := by simp; omega
          go_upto_if 48 with fail
          go_cut [9] (fun u wx => ∃ x : Int, u = .int .i64 x ∧ -9223372036854775808 ≤ x ∧ x ≤ 9223372036854775807 ∧ wr.alloc (.cells #[.int .u8 (l[k].d.toNat : Int), .int .i64 l[k].n, .slice B l[k].p.length c] 40) = wx)
          case first =>
            have B40 := tmod_b l[k].n 40 (by omega)
            cases few with
            | true =>
              go_wp2
              go_meet
              exact ⟨_, rfl, by omega, by omega, rfl⟩
            | false =>
              go_wp2
              go_meet
              exact ⟨_, rfl, hn.1, hn.2, rfl⟩
          case rest =>
            obtain ⟨x, rfl, hx1, hx2, rfl⟩ := hcut
            have hbW := hb.alloc s0 (.cells #[.int .u8 (l[k].d.toNat : Int), .int .i64 l[k].n, .slice B l[k].p.length c] 40)
            have dW := d.below ((Below.refl _ wr).alloc (Nat.le_refl _) (.cells #[.int .u8 (l[k].d.toNat : Int), .int .i64 l[k].n, .slice B l[k].p.length c] 40))
            have k0 := cell_at (heap_alloc_new wr (.cells #[.int .u8 (l[k].d.toNat : Int), .int .i64 l[k].n, .slice B l[k].p.length c] 40)) (i := 0) (v := .int .u8 (l[k].d.toNat : Int)) rfl
            have k2 := cell_at (heap_alloc_new wr (.cells #[.int .u8 (l[k].d.toNat : Int), .int .i64 l[k].n, .slice B l[k].p.length c] 40)) (i := 2) (v := .slice B l[k].p.length c) rfl
            have ln : w2.heap.size < wr.heap.size := by obtain ⟨_, _, _, _, m⟩ := d.var; exact lt_of_block m
            have bpW := bp.below hbW
            have hqb := hid (show ∀ ad, B = some ad → 0 < l[k].p.length → ¬ ad.block = w2.heap.size from fun ad e hl => by
              have := World.block_lt_of_cell? w _ (bp.2.2.2 ad e 0 hl)
              have e0 : (ad.add 0).block = ad.block := by unfold Addr.add; split <;> rfl
              omega)
            clear d hb x0 x1 x2 y0 y1 y2 bp
            go_upto_block 2 with fail
            generalize hW : wr.alloc (.cells #[.int .u8 (l[k].d.toNat : Int), .int .i64 l[k].n, .slice B l[k].p.length c] 40) = W at *
            clear hW
            go_cut [] (fun wx => ∃ vs' last', Both wx w.heap.size b w2.heap.size vs' last' ∧ Good vs' last' ∧ vs'.length ≤ k + 1 ∧ Below w.heap.size w wx)
            case first =>
              have sW := hbW.size
              obtain ⟨G1, A1, c1, R1, m1⟩ := dW.var
              have e0 := cell_at m1 (i := 0) (v := .slice A1 vs.length c1) rfl
              have e1 := cell_at m1 (i := 1) (v := .int .i64 last) rfl
              clear R1 h
              have v6 : l[k].d.toNat % 6 = 0 ∨ l[k].d.toNat % 6 = 1 ∨ l[k].d.toNat % 6 = 2 ∨ l[k].d.toNat % 6 = 3 ∨ l[k].d.toNat % 6 = 4 ∨ l[k].d.toNat % 6 = 5 := by omega
              rcases v6 with hv | hv | hv | hv | hv | hv
              ·
                have q0 : ((l[k].d.toNat : Int) % 6 == 0) = true := by simp; omega
                have q1 : ((l[k].d.toNat : Int) % 6 == 1) = false := by simp; omega
                have q2 : ((l[k].d.toNat : Int) % 6 == 2) = false := by simp; omega
                have q3 : ((l[k].d.toNat : Int) % 6 == 3) = false := by simp; omega
                have q4 : ((l[k].d.toNat : Int) % 6 == 4) = false := by simp; omega
                have q5 : ((l[k].d.toNat : Int) % 6 == 5) = false := by simp; omega
                clear hv
                by_cases hx : last < x
                ·
                  have C1 := hid (tr_rput (g := false) sW dW m1 hx bpW (by omega) (by omega))
                  go_wp2_with fail
                  refine C1.out.mono ?_
                  rintro e w4 ⟨A', c', rfl, d4, b4, b4'⟩
                  have m4 : (w4.alloc (.cells #[.slice A' (vs.length + 1) c', .int .i64 x] 38)).heap[w2.heap.size]? = some (.cells #[.slice A1 vs.length c1, .int .i64 last] 38 (0, 0)) := below_heap (below_alloc (Below.refl _ w4) _) (below_heap b4' m1)
                  have f0 := cell_at m4 (i := 0) (v := .slice A1 vs.length c1) rfl
                  have f1 := cell_at m4 (i := 1) (v := .int .i64 last) rfl
                  have f2 := free_at m4 0
                  have f3 := free_at m4 1
                  have g0 := (stored_keeps (mb := w2.heap.size) (A := A') (n := (vs.length + 1)) (c := c') (x := x)).cell (below_cell b4' k0) (show ¬ wr.heap.size = w2.heap.size by omega)
                  have g2 := (stored_keeps (mb := w2.heap.size) (A := A') (n := (vs.length + 1)) (c := c') (x := x)).cell (below_cell b4' k2) (show ¬ wr.heap.size = w2.heap.size by omega)
                  unfold stored at g0 g2
                  have s4 := Nat.le_trans sW b4.size
                  have C2 := hid (tr_put (g := false) s4 d4 hx (bpW.keeps' (S := fun k => k = w2.heap.size) ((Keeps.of_below b4').then stored_keeps (fun _ _ e => e)) hqb.out) (by omega) (by omega))
                  have HG := hid (hg.put (row := l[k].p) (g := false) hx (by omega) (by omega))
                  have b04 := hbW.trans b4
                  clear C1 d4 b4 b4' dW m1 m4 e0 e1
                  go_wp2_with fail
                  refine C2.out.mono ?_
                  rintro e w5 ⟨rfl, d5, b5⟩
                  go_wp2
                  go_meet
                  exact ⟨_, _, d5, HG.out, by simp; omega, b04.trans b5⟩
                · replace hx : x ≤ last := by omega
                  have C1 := hid (tr_rput_no (A2 := B) (n2 := l[k].p.length) (c2 := c) (g := false) sW dW m1 hx)
                  go_wp2_with fail
                  refine C1.out.mono ?_
                  rintro e w4 ⟨rfl, d4, b4, b4'⟩
                  have m4 : (w4.alloc (.cells #[.slice A1 vs.length c1, .int .i64 last] 38)).heap[w2.heap.size]? = some (.cells #[.slice A1 vs.length c1, .int .i64 last] 38 (0, 0)) := below_heap (below_alloc (Below.refl _ w4) _) (below_heap b4' m1)
                  have f0 := cell_at m4 (i := 0) (v := .slice A1 vs.length c1) rfl
                  have f1 := cell_at m4 (i := 1) (v := .int .i64 last) rfl
                  have f2 := free_at m4 0
                  have f3 := free_at m4 1
                  have g0 := (stored_keeps (mb := w2.heap.size) (A := A1) (n := vs.length) (c := c1) (x := last)).cell (below_cell b4' k0) (show ¬ wr.heap.size = w2.heap.size by omega)
                  have g2 := (stored_keeps (mb := w2.heap.size) (A := A1) (n := vs.length) (c := c1) (x := last)).cell (below_cell b4' k2) (show ¬ wr.heap.size = w2.heap.size by omega)
                  unfold stored at g0 g2
                  have C2 := hid (put_noB (A := B) (n := l[k].p.length) (c := c) (g := false) d4.chain hx)
                  have HD := hid d4
                  have b04 := hbW.trans b4
                  clear C1 d4 b4 b4' dW m1 m4 e0 e1
                  go_wp2_with fail
                  refine C2.out.mono ?_
                  rintro e w5 ⟨rfl, rfl⟩
                  go_wp2
                  go_meet
                  exact ⟨_, _, HD.out, hg, by omega, b04⟩
              ·
                have q0 : ((l[k].d.toNat : Int) % 6 == 0) = false := by simp; omega
                have q1 : ((l[k].d.toNat : Int) % 6 == 1) = true := by simp; omega
                have q2 : ((l[k].d.toNat : Int) % 6 == 2) = false := by simp; omega
                have q3 : ((l[k].d.toNat : Int) % 6 == 3) = false := by simp; omega
                have q4 : ((l[k].d.toNat : Int) % 6 == 4) = false := by simp; omega
                have q5 : ((l[k].d.toNat : Int) % 6 == 5) = false := by simp; omega
                clear hv
                by_cases hx : last < x
                ·
                  have C1 := hid (tr_rput (g := false) sW dW m1 hx bpW (by omega) (by omega))
                  go_wp2_with fail
                  refine C1.out.mono ?_
                  rintro e w4 ⟨A', c', rfl, d4, b4, b4'⟩
                  have m4 : (w4.alloc (.cells #[.slice A' (vs.length + 1) c', .int .i64 x] 38)).heap[w2.heap.size]? = some (.cells #[.slice A1 vs.length c1, .int .i64 last] 38 (0, 0)) := below_heap (below_alloc (Below.refl _ w4) _) (below_heap b4' m1)
                  have f0 := cell_at m4 (i := 0) (v := .slice A1 vs.length c1) rfl
                  have f1 := cell_at m4 (i := 1) (v := .int .i64 last) rfl
                  have f2 := free_at m4 0
                  have f3 := free_at m4 1
                  have g0 := (stored_keeps (mb := w2.heap.size) (A := A') (n := (vs.length + 1)) (c := c') (x := x)).cell (below_cell b4' k0) (show ¬ wr.heap.size = w2.heap.size by omega)
                  have g2 := (stored_keeps (mb := w2.heap.size) (A := A') (n := (vs.length + 1)) (c := c') (x := x)).cell (below_cell b4' k2) (show ¬ wr.heap.size = w2.heap.size by omega)
                  unfold stored at g0 g2
                  have s4 := Nat.le_trans sW b4.size
                  have C2 := hid (tr_put (g := false) s4 d4 hx (bpW.keeps' (S := fun k => k = w2.heap.size) ((Keeps.of_below b4').then stored_keeps (fun _ _ e => e)) hqb.out) (by omega) (by omega))
                  have HG := hid (hg.put (row := l[k].p) (g := false) hx (by omega) (by omega))
                  have b04 := hbW.trans b4
                  clear C1 d4 b4 b4' dW m1 m4 e0 e1
                  go_wp2_with fail
                  refine C2.out.mono ?_
                  rintro e w5 ⟨rfl, d5, b5⟩
                  go_wp2
                  go_meet
                  exact ⟨_, _, d5, HG.out, by simp; omega, b04.trans b5⟩
                · replace hx : x ≤ last := by omega
                  have C1 := hid (tr_rput_no (A2 := B) (n2 := l[k].p.length) (c2 := c) (g := false) sW dW m1 hx)
                  go_wp2_with fail
                  refine C1.out.mono ?_
                  rintro e w4 ⟨rfl, d4, b4, b4'⟩
                  have m4 : (w4.alloc (.cells #[.slice A1 vs.length c1, .int .i64 last] 38)).heap[w2.heap.size]? = some (.cells #[.slice A1 vs.length c1, .int .i64 last] 38 (0, 0)) := below_heap (below_alloc (Below.refl _ w4) _) (below_heap b4' m1)
                  have f0 := cell_at m4 (i := 0) (v := .slice A1 vs.length c1) rfl
                  have f1 := cell_at m4 (i := 1) (v := .int .i64 last) rfl
                  have f2 := free_at m4 0
                  have f3 := free_at m4 1
                  have g0 := (stored_keeps (mb := w2.heap.size) (A := A1) (n := vs.length) (c := c1) (x := last)).cell (below_cell b4' k0) (show ¬ wr.heap.size = w2.heap.size by omega)
                  have g2 := (stored_keeps (mb := w2.heap.size) (A := A1) (n := vs.length) (c := c1) (x := last)).cell (below_cell b4' k2) (show ¬ wr.heap.size = w2.heap.size by omega)
                  unfold stored at g0 g2
                  have C2 := hid (put_noB (A := B) (n := l[k].p.length) (c := c) (g := false) d4.chain hx)
                  have HD := hid d4
                  have b04 := hbW.trans b4
                  clear C1 d4 b4 b4' dW m1 m4 e0 e1
                  go_wp2_with fail
                  refine C2.out.mono ?_
                  rintro e w5 ⟨rfl, rfl⟩
                  go_wp2
                  go_meet
                  exact ⟨_, _, HD.out, hg, by omega, b04⟩
              ·
                have q0 : ((l[k].d.toNat : Int) % 6 == 0) = false := by simp; omega
                have q1 : ((l[k].d.toNat : Int) % 6 == 1) = false := by simp; omega
                have q2 : ((l[k].d.toNat : Int) % 6 == 2) = true := by simp; omega
                have q3 : ((l[k].d.toNat : Int) % 6 == 3) = false := by simp; omega
                have q4 : ((l[k].d.toNat : Int) % 6 == 4) = false := by simp; omega
                have q5 : ((l[k].d.toNat : Int) % 6 == 5) = false := by simp; omega
                clear hv
                by_cases hx : last < x
                ·
                  have C1 := hid (tr_rput (g := false) sW dW m1 hx bpW (by omega) (by omega))
                  go_wp2_with fail
                  refine C1.out.mono ?_
                  rintro e w4 ⟨A', c', rfl, d4, b4, b4'⟩
                  have m4 : (w4.alloc (.cells #[.slice A' (vs.length + 1) c', .int .i64 x] 38)).heap[w2.heap.size]? = some (.cells #[.slice A1 vs.length c1, .int .i64 last] 38 (0, 0)) := below_heap (below_alloc (Below.refl _ w4) _) (below_heap b4' m1)
                  have f0 := cell_at m4 (i := 0) (v := .slice A1 vs.length c1) rfl
                  have f1 := cell_at m4 (i := 1) (v := .int .i64 last) rfl
                  have f2 := free_at m4 0
                  have f3 := free_at m4 1
                  have g0 := (stored_keeps (mb := w2.heap.size) (A := A') (n := (vs.length + 1)) (c := c') (x := x)).cell (below_cell b4' k0) (show ¬ wr.heap.size = w2.heap.size by omega)
                  have g2 := (stored_keeps (mb := w2.heap.size) (A := A') (n := (vs.length + 1)) (c := c') (x := x)).cell (below_cell b4' k2) (show ¬ wr.heap.size = w2.heap.size by omega)
                  unfold stored at g0 g2
                  have s4 := Nat.le_trans sW b4.size
                  have C2 := hid (tr_put (g := false) s4 d4 hx (bpW.keeps' (S := fun k => k = w2.heap.size) ((Keeps.of_below b4').then stored_keeps (fun _ _ e => e)) hqb.out) (by omega) (by omega))
                  have HG := hid (hg.put (row := l[k].p) (g := false) hx (by omega) (by omega))
                  have b04 := hbW.trans b4
                  clear C1 d4 b4 b4' dW m1 m4 e0 e1
                  go_wp2_with fail
                  refine C2.out.mono ?_
                  rintro e w5 ⟨rfl, d5, b5⟩
                  go_wp2
                  go_meet
                  exact ⟨_, _, d5, HG.out, by simp; omega, b04.trans b5⟩
                · replace hx : x ≤ last := by omega
                  have C1 := hid (tr_rput_no (A2 := B) (n2 := l[k].p.length) (c2 := c) (g := false) sW dW m1 hx)
                  go_wp2_with fail
                  refine C1.out.mono ?_
                  rintro e w4 ⟨rfl, d4, b4, b4'⟩
                  have m4 : (w4.alloc (.cells #[.slice A1 vs.length c1, .int .i64 last] 38)).heap[w2.heap.size]? = some (.cells #[.slice A1 vs.length c1, .int .i64 last] 38 (0, 0)) := below_heap (below_alloc (Below.refl _ w4) _) (below_heap b4' m1)
                  have f0 := cell_at m4 (i := 0) (v := .slice A1 vs.length c1) rfl
                  have f1 := cell_at m4 (i := 1) (v := .int .i64 last) rfl
                  have f2 := free_at m4 0
                  have f3 := free_at m4 1
                  have g0 := (stored_keeps (mb := w2.heap.size) (A := A1) (n := vs.length) (c := c1) (x := last)).cell (below_cell b4' k0) (show ¬ wr.heap.size = w2.heap.size by omega)
                  have g2 := (stored_keeps (mb := w2.heap.size) (A := A1) (n := vs.length) (c := c1) (x := last)).cell (below_cell b4' k2) (show ¬ wr.heap.size = w2.heap.size by omega)
                  unfold stored at g0 g2
                  have C2 := hid (put_noB (A := B) (n := l[k].p.length) (c := c) (g := false) d4.chain hx)
                  have HD := hid d4
                  have b04 := hbW.trans b4
                  clear C1 d4 b4 b4' dW m1 m4 e0 e1
                  go_wp2_with fail
                  refine C2.out.mono ?_
                  rintro e w5 ⟨rfl, rfl⟩
                  go_wp2
                  go_meet
                  exact ⟨_, _, HD.out, hg, by omega, b04⟩
              ·
                have q0 : ((l[k].d.toNat : Int) % 6 == 0) = false := by simp; omega
                have q1 : ((l[k].d.toNat : Int) % 6 == 1) = false := by simp; omega
                have q2 : ((l[k].d.toNat : Int) % 6 == 2) = false := by simp; omega
                have q3 : ((l[k].d.toNat : Int) % 6 == 3) = true := by simp; omega
                have q4 : ((l[k].d.toNat : Int) % 6 == 4) = false := by simp; omega
                have q5 : ((l[k].d.toNat : Int) % 6 == 5) = false := by simp; omega
                clear hv
                by_cases hx : last < x
                ·
                  have C1 := hid (tr_rput (g := true) sW dW m1 hx bpW (by omega) (by omega))
                  go_wp2_with fail
                  refine C1.out.mono ?_
                  rintro e w4 ⟨A', c', rfl, d4, b4, b4'⟩
                  have m4 : (w4.alloc (.cells #[.slice A' (vs.length + 1) c', .int .i64 x] 38)).heap[w2.heap.size]? = some (.cells #[.slice A1 vs.length c1, .int .i64 last] 38 (0, 0)) := below_heap (below_alloc (Below.refl _ w4) _) (below_heap b4' m1)
                  have f0 := cell_at m4 (i := 0) (v := .slice A1 vs.length c1) rfl
                  have f1 := cell_at m4 (i := 1) (v := .int .i64 last) rfl
                  have f2 := free_at m4 0
                  have f3 := free_at m4 1
                  have g0 := (stored_keeps (mb := w2.heap.size) (A := A') (n := (vs.length + 1)) (c := c') (x := x)).cell (below_cell b4' k0) (show ¬ wr.heap.size = w2.heap.size by omega)
                  have g2 := (stored_keeps (mb := w2.heap.size) (A := A') (n := (vs.length + 1)) (c := c') (x := x)).cell (below_cell b4' k2) (show ¬ wr.heap.size = w2.heap.size by omega)
                  unfold stored at g0 g2
                  have s4 := Nat.le_trans sW b4.size
                  have C2 := hid (tr_put (g := true) s4 d4 hx (bpW.keeps' (S := fun k => k = w2.heap.size) ((Keeps.of_below b4').then stored_keeps (fun _ _ e => e)) hqb.out) (by omega) (by omega))
                  have HG := hid (hg.put (row := l[k].p) (g := true) hx (by omega) (by omega))
                  have b04 := hbW.trans b4
                  clear C1 d4 b4 b4' dW m1 m4 e0 e1
                  go_wp2_with fail
                  refine C2.out.mono ?_
                  rintro e w5 ⟨rfl, d5, b5⟩
                  go_wp2
                  go_meet
                  exact ⟨_, _, d5, HG.out, by simp; omega, b04.trans b5⟩
                · replace hx : x ≤ last := by omega
                  have C1 := hid (tr_rput_no (A2 := B) (n2 := l[k].p.length) (c2 := c) (g := true) sW dW m1 hx)
                  go_wp2_with fail
                  refine C1.out.mono ?_
                  rintro e w4 ⟨rfl, d4, b4, b4'⟩
                  have m4 : (w4.alloc (.cells #[.slice A1 vs.length c1, .int .i64 last] 38)).heap[w2.heap.size]? = some (.cells #[.slice A1 vs.length c1, .int .i64 last] 38 (0, 0)) := below_heap (below_alloc (Below.refl _ w4) _) (below_heap b4' m1)
                  have f0 := cell_at m4 (i := 0) (v := .slice A1 vs.length c1) rfl
                  have f1 := cell_at m4 (i := 1) (v := .int .i64 last) rfl
                  have f2 := free_at m4 0
                  have f3 := free_at m4 1
                  have g0 := (stored_keeps (mb := w2.heap.size) (A := A1) (n := vs.length) (c := c1) (x := last)).cell (below_cell b4' k0) (show ¬ wr.heap.size = w2.heap.size by omega)
                  have g2 := (stored_keeps (mb := w2.heap.size) (A := A1) (n := vs.length) (c := c1) (x := last)).cell (below_cell b4' k2) (show ¬ wr.heap.size = w2.heap.size by omega)
                  unfold stored at g0 g2
                  have C2 := hid (put_noB (A := B) (n := l[k].p.length) (c := c) (g := true) d4.chain hx)
                  have HD := hid d4
                  have b04 := hbW.trans b4
                  clear C1 d4 b4 b4' dW m1 m4 e0 e1
                  go_wp2_with fail
                  refine C2.out.mono ?_
                  rintro e w5 ⟨rfl, rfl⟩
                  go_wp2
                  go_meet
                  exact ⟨_, _, HD.out, hg, by omega, b04⟩
              ·
                have q0 : ((l[k].d.toNat : Int) % 6 == 0) = false := by simp; omega
                have q1 : ((l[k].d.toNat : Int) % 6 == 1) = false := by simp; omega
                have q2 : ((l[k].d.toNat : Int) % 6 == 2) = false := by simp; omega
                have q3 : ((l[k].d.toNat : Int) % 6 == 3) = false := by simp; omega
                have q4 : ((l[k].d.toNat : Int) % 6 == 4) = true := by simp; omega
                have q5 : ((l[k].d.toNat : Int) % 6 == 5) = false := by simp; omega
                clear hv
                have C1 := hid (tr_rtrim (x := x) sW dW m1 hg)
                have tt : ((trimN vs x : Int) != (trimN vs x : Int)) = false := by simp
                go_wp2_with fail
                refine C1.out.mono ?_
                rintro e w4 ⟨A', n', c', rfl, d4, b4, b4'⟩
                have m4 : (w4.alloc (.cells #[.slice A' n' c', .int .i64 last] 38)).heap[w2.heap.size]? = some (.cells #[.slice A1 vs.length c1, .int .i64 last] 38 (0, 0)) := below_heap (below_alloc (Below.refl _ w4) _) (below_heap b4' m1)
                have f0 := cell_at m4 (i := 0) (v := .slice A1 vs.length c1) rfl
                have f1 := cell_at m4 (i := 1) (v := .int .i64 last) rfl
                have f2 := free_at m4 0
                have f3 := free_at m4 1
                have s4 := Nat.le_trans sW b4.size
                have C2 := hid (tr_trim (x := x) s4 d4 hg)
                have b04 := hbW.trans b4
                clear C1 d4 b4 b4' dW m1 m4 e0 e1
                go_wp2_with fail
                refine C2.out.mono ?_
                rintro e w5 ⟨rfl, d5, b5⟩
                go_wp2
                go_meet
                exact ⟨_, _, d5, hg.drop _, by simp; omega, b04.trans b5⟩
              ·
                have q0 : ((l[k].d.toNat : Int) % 6 == 0) = false := by simp; omega
                have q1 : ((l[k].d.toNat : Int) % 6 == 1) = false := by simp; omega
                have q2 : ((l[k].d.toNat : Int) % 6 == 2) = false := by simp; omega
                have q3 : ((l[k].d.toNat : Int) % 6 == 3) = false := by simp; omega
                have q4 : ((l[k].d.toNat : Int) % 6 == 4) = false := by simp; omega
                have q5 : ((l[k].d.toNat : Int) % 6 == 5) = true := by simp; omega
                clear hv
                go_wp2
                go_meet
                exact ⟨vs, last, dW, hg, by omega, hbW⟩
            case rest =>
              obtain ⟨vs', last', d1, hg1, hv1, b1⟩ := hcut
              clear dW bpW hg hvk k0 k2
              go_wp2
              go_loopw [14] (fun i wy => ∃ (j : Nat) (y : Int), j ≤ 11 ∧ y = 4 * (j : Int) - 2 ∧ i = .int .i64 y ∧ Below w.heap.size w wy ∧ Both wy w.heap.size b w2.heap.size vs' last') (fun i _ => (42 - intOf i).toNat)
              case atStart => exact ⟨0, -2, by omega, by omega, rfl, b1, d1⟩
              case round =>
                clear b1 d1
                obtain ⟨j, y, hj, hy0, rfl, b1, d1⟩ := hrel
                have hy1 : -2 ≤ y := by omega
                have hy2 : y ≤ 42 := by omega
                have hy := hid hy0
                clear hy0
                have s1 := b1.size
                by_cases hlt2 : y < 42
                · have HD := hid d1
                  have hlt3 : decide (y < 42) = true := by simp; omega
                  have HG1 := hid (get_B d1.chain hg1 y)
                  clear d1
                  go_wp2_with fail
                  refine HG1.out.mono ?_
                  rintro e w6 ⟨A6, c6, rfl, m6⟩
                  have d6 := HD.out.below m6.2.2
                  have y6 := m6.bsa
                  have b6 := b1.trans (m6.2.2.mono s1)
                  have s6 := b6.size
                  obtain ⟨G1, A1, c1, R1, m1⟩ := d6.var
                  have e0 := cell_at m1 (i := 0) (v := .slice A1 vs'.length c1) rfl
                  have e1 := cell_at m1 (i := 1) (v := .int .i64 last') rfl
                  have HG2 := hid (tr_rget (x := y) d6 m1 hg1)
                  have HD6 := hid d6
                  clear R1 m1 d6 HD m6 HG1
                  go_wp2_with fail
                  refine HG2.out.mono ?_
                  rintro e w7 ⟨A7, c7, rfl, y7, q7⟩
                  have d7 := HD6.out.below q7
                  have b7 := b6.trans (q7.mono s6)
                  have s7 := b7.size
                  have BB := bytes_any (y6.below q7) y7
                  rw [show decide ((got vs' y).1 = (got vs' y).1) = true by simp] at BB
                  have HB := hid BB
                  have tt : ((got vs' y).2 != (got vs' y).2) = false := by simp
                  clear BB y6 y7 HG2 HD6 e0 e1
                  go_wp2_with fail
                  refine HB.out.mono ?_
                  rintro e w8 ⟨rfl, b8⟩
                  have b78 := b7.trans (b8.mono s7)
                  have d8 := d7.below b8
                  go_wp2
                  go_roundw
                  case rel => exact ⟨j + 1, y + 4, by have := hy.out; omega, by have := hy.out; omega, by go_num, b78, d8⟩
                  case measure => simp [intOf]; omega
                · have hlt3 : decide (y < 42) = false := by simp; omega
                  have HD := hid d1
                  have HG1 := hid (get_B d1.chain hg1 x)
                  clear d1
                  go_wp2_with fail
                  refine HG1.out.mono ?_
                  rintro e w6 ⟨A6, c6, rfl, m6⟩
                  have d6 := HD.out.below m6.2.2
                  have y6 := m6.bsa
                  have b6 := b1.trans (m6.2.2.mono s1)
                  have s6 := b6.size
                  obtain ⟨G1, A1, c1, R1, m1⟩ := d6.var
                  have e0 := cell_at m1 (i := 0) (v := .slice A1 vs'.length c1) rfl
                  have e1 := cell_at m1 (i := 1) (v := .int .i64 last') rfl
                  have HG2 := hid (tr_rget (x := x) d6 m1 hg1)
                  have HD6 := hid d6
                  clear R1 m1 d6 HD m6 HG1
                  go_wp2_with fail
                  refine HG2.out.mono ?_
                  rintro e w7 ⟨A7, c7, rfl, y7, q7⟩
                  have d7 := HD6.out.below q7
                  have b7 := b6.trans (q7.mono s6)
                  have s7 := b7.size
                  have x0 := below_cell q7 e0
                  have x1 := below_cell q7 e1
                  have BB := bytes_any ((y6.below q7).below (Below.refl _ w7).drew) (y7.below (Below.refl _ w7).drew)
                  rw [show decide ((got vs' x).1 = (got vs' x).1) = true by simp] at BB
                  have HB := hid BB
                  have t2 : ((got vs' x).2 != (got vs' x).2) = false := by simp
                  have t3 : (last' != last') = false := by simp
                  have t4 : ((vs'.length : Int) != (vs'.length : Int)) = false := by simp
                  have d7' := d7.below (Below.refl _ w7).drew
                  clear BB y6 y7 HG2 HD6 e0 e1 d7
                  go_wp2
                  refine start_ (n := 24) (S := fun w' => w'.cell? ⟨w2.heap.size, 0, none⟩ = some (.slice A1 vs'.length c1) ∧ w'.cell? ⟨w2.heap.size, 1, none⟩ = some (.int .i64 last')) (ds := []) #[false, false, false, false, false, false, false, false, false, false, false, false, false, false, false, false, false, false, false, false, false, false, false, false] (by kernel_rfl) rfl rfl ⟨x0, x1⟩ (fun hHeld => ?_)
                  refine pure_ (i := 0) (N := some 134) (v := ?_) (a' := ?_) #[true, false, false, false, false, false, false, false, false, false, false, false, false, false, false, false, false, false, false, false, false, false, false, false] rfl rfl (by kernel_rfl) (fun _ _ _ h => h) (Or.inl ⟨by rfl, ?_⟩) ?_ ?_
                  rotate_left
                  · intro w'
                    go_simp
                    with_reducible rfl
                  rotate_left
                  · simp only [Act.put, List.setIfInBounds_toArray, List.set_cons_zero, List.set_cons_succ, i64_w, i32_w]
                    rfl
                  refine pure_ (i := 1) (N := some 135) (v := ?_) (a' := ?_) #[true, true, false, false, false, false, false, false, false, false, false, false, false, false, false, false, false, false, false, false, false, false, false, false] rfl rfl (by kernel_rfl) (fun _ _ _ h => h) (Or.inl ⟨by rfl, ?_⟩) ?_ ?_
                  rotate_left
                  · intro w'
                    go_simp
                    with_reducible rfl
                  rotate_left
                  · simp only [Act.put, List.setIfInBounds_toArray, List.set_cons_zero, List.set_cons_succ, i64_w, i32_w]
                    rfl
                  refine pure_ (i := 2) (N := some 136) (v := ?_) (a' := ?_) #[true, true, true, false, false, false, false, false, false, false, false, false, false, false, false, false, false, false, false, false, false, false, false, false] rfl rfl (by kernel_rfl) (fun _ _ _ h => h) (Or.inl ⟨by rfl, ?_⟩) ?_ ?_
                  rotate_left
                  · intro w'
                    go_simp
                    with_reducible rfl
                  rotate_left
                  · simp only [Act.put, List.setIfInBounds_toArray, List.set_cons_zero, List.set_cons_succ, i64_w, i32_w]
                    rfl
                  refine pure_ (i := 3) (N := some 137) (v := ?_) (a' := ?_) #[true, true, true, true, false, false, false, false, false, false, false, false, false, false, false, false, false, false, false, false, false, false, false, false] rfl rfl (by kernel_rfl) (fun _ _ _ h => h) (Or.inl ⟨by rfl, ?_⟩) ?_ ?_
                  rotate_left
                  · intro w'
                    go_simp
                    with_reducible rfl
                  rotate_left
                  · simp only [Act.put, List.setIfInBounds_toArray, List.set_cons_zero, List.set_cons_succ, i64_w, i32_w]
                    rfl
                  refine pure_ (i := 4) (N := some 138) (v := ?_) (a' := ?_) #[true, true, true, true, true, false, false, false, false, false, false, false, false, false, false, false, false, false, false, false, false, false, false, false] rfl rfl (by kernel_rfl) (fun _ _ _ h => h) (Or.inl ⟨by rfl, ?_⟩) ?_ ?_
                  rotate_left
                  · intro w'
                    go_simp
                    with_reducible rfl
                  rotate_left
                  · simp only [Act.put, List.setIfInBounds_toArray, List.set_cons_zero, List.set_cons_succ, i64_w, i32_w]
                    rfl
                  refine pure_ (i := 5) (N := some 139) (v := ?_) (a' := ?_) #[true, true, true, true, true, true, false, false, false, false, false, false, false, false, false, false, false, false, false, false, false, false, false, false] rfl rfl (by kernel_rfl) (fun _ _ _ h => h) (Or.inl ⟨by rfl, ?_⟩) ?_ ?_
                  rotate_left
                  · intro w'
                    go_simp
                    with_reducible rfl
                  rotate_left
                  · simp only [Act.put, List.setIfInBounds_toArray, List.set_cons_zero, List.set_cons_succ, i64_w, i32_w]
                    rfl
                  refine one_ (i := 6) (N := some 140) #[true, true, true, true, true, true, true, false, false, false, false, false, false, false, false, false, false, false, false, false, false, false, false, false] rfl rfl (by kernel_rfl) (by decide) (fun K hK => ?_)
                  refine goes_ Try.func14 (by kernel_rfl) rfl #[.slice A6 (got vs' x).1.length c6, .slice A7 (got vs' x).1.length c7] (by rfl) rfl rfl (by simp only [List.map_toArray, List.map_cons, List.map_nil]; rfl) ?_
                  with_reducible refine (HB.out).mono ?_
                  rintro e w8 ⟨rfl, q8⟩
                  refine ⟨_, rfl, ?_⟩
                  have d8 := d7'.below q8
                  have HL1 := hid (last_B d8.chain)
                  have HL2 := hid (len_B d8.chain)
                  have z0 := below_cell q8 x0
                  have z1 := below_cell q8 x1
                  refine hK.out _ _ ⟨z0, z1⟩ (fun hHeld => ?_)
                  clear hK K
                  refine norm_ (a' := ?_) ?_ ?_
                  rotate_left
                  · show Act.put _ (some 140) _ = _
                    simp only [Act.put, List.setIfInBounds_toArray, List.set_cons_zero, List.set_cons_succ, i64_w, i32_w]
                    rfl
                  refine pure_ (i := 7) (N := some 141) (v := ?_) (a' := ?_) #[true, true, true, true, true, true, true, true, false, false, false, false, false, false, false, false, false, false, false, false, false, false, false, false] rfl rfl (by kernel_rfl) (fun _ _ _ h => h) (Or.inl ⟨by rfl, ?_⟩) ?_ ?_
                  rotate_left
                  · intro w'
                    go_simp
                    with_reducible rfl
                  rotate_left
                  · simp only [Act.put, List.setIfInBounds_toArray, List.set_cons_zero, List.set_cons_succ, i64_w, i32_w]
                    rfl
                  refine pure_ (i := 8) (N := some 142) (v := ?_) (a' := ?_) #[true, true, true, true, true, true, true, true, true, false, false, false, false, false, false, false, false, false, false, false, false, false, false, false] rfl rfl (by kernel_rfl) (fun _ _ _ h => h) (Or.inl ⟨by rfl, ?_⟩) ?_ ?_
                  rotate_left
                  · intro w'
                    go_simp
                    with_reducible rfl
                  rotate_left
                  · simp only [Act.put, List.setIfInBounds_toArray, List.set_cons_zero, List.set_cons_succ, i64_w, i32_w]
                    rfl
                  refine pure_ (i := 9) (N := some 143) (v := ?_) (a' := ?_) #[true, true, true, true, true, true, true, true, true, true, false, false, false, false, false, false, false, false, false, false, false, false, false, false] rfl rfl (by kernel_rfl) (fun _ _ _ h => h) (Or.inl ⟨by rfl, ?_⟩) ?_ ?_
                  rotate_left
                  · intro w'
                    go_simp
                    with_reducible rfl
                  rotate_left
                  · simp only [Act.put, List.setIfInBounds_toArray, List.set_cons_zero, List.set_cons_succ, i64_w, i32_w]
                    rfl
                  refine pure_ (i := 10) (N := some 144) (v := ?_) (a' := ?_) #[true, true, true, true, true, true, true, true, true, true, true, false, false, false, false, false, false, false, false, false, false, false, false, false] rfl rfl (by kernel_rfl) (fun _ _ _ h => h) (Or.inl ⟨by rfl, ?_⟩) ?_ ?_
                  rotate_left
                  · intro w'
                    go_simp
                    with_reducible rfl
                  rotate_left
                  · simp only [Act.put, List.setIfInBounds_toArray, List.set_cons_zero, List.set_cons_succ, i64_w, i32_w]
                    rfl
                  refine pure_ (i := 12) (N := some 146) (v := ?_) (a' := ?_) #[true, true, true, true, true, true, true, true, true, true, true, false, true, false, false, false, false, false, false, false, false, false, false, false] rfl rfl (by kernel_rfl) (fun _ _ _ h => h) (Or.inl ⟨by rfl, ?_⟩) ?_ ?_
                  rotate_left
                  · intro w'
                    go_simp
                    with_reducible rfl
                  rotate_left
                  · simp only [Act.put, List.setIfInBounds_toArray, List.set_cons_zero, List.set_cons_succ, i64_w, i32_w]
                    rfl
                  refine take_ (i := 13) (N := some 147) (v := ?_) (a' := ?_) #[true, true, true, true, true, true, true, true, true, true, true, false, true, true, false, false, false, false, false, false, false, false, false, false] rfl rfl (by kernel_rfl) (fun _ _ _ h => h) (Or.inl ⟨by rfl, ?_⟩) hHeld ?_ ?_
                  rotate_left
                  · rintro w' ⟨s0, s1⟩
                    go_simp
                    with_reducible rfl
                  rotate_left
                  · simp only [Act.put, List.setIfInBounds_toArray, List.set_cons_zero, List.set_cons_succ, i64_w, i32_w]
                    rfl
                  refine one_ (i := 11) (N := some 145) #[true, true, true, true, true, true, true, true, true, true, true, true, true, true, false, false, false, false, false, false, false, false, false, false] rfl rfl (by kernel_rfl) (by decide) (fun K hK => ?_)
                  refine goes_ Try.func19 (by kernel_rfl) rfl #[.pointer (some ⟨b, 0, none⟩)] (by rfl) rfl rfl (by simp only [List.map_toArray, List.map_cons, List.map_nil]; rfl) ?_
                  with_reducible refine (HL1.out).mono ?_
                  rintro e w9 ⟨rfl, rfl⟩
                  refine ⟨_, rfl, ?_⟩
                  refine hK.out _ _ ⟨z0, z1⟩ (fun hHeld => ?_)
                  clear hK K
                  refine norm_ (a' := ?_) ?_ ?_
                  rotate_left
                  · show Act.put _ (some 145) _ = _
                    simp only [Act.put, List.setIfInBounds_toArray, List.set_cons_zero, List.set_cons_succ, i64_w, i32_w]
                    rfl
                  refine pure_ (i := 14) (N := some 148) (v := ?_) (a' := ?_) #[true, true, true, true, true, true, true, true, true, true, true, true, true, true, true, false, false, false, false, false, false, false, false, false] rfl rfl (by kernel_rfl) (fun _ _ _ h => h) (Or.inl ⟨by rfl, ?_⟩) ?_ ?_
                  rotate_left
                  · intro w'
                    go_simp
                    with_reducible rfl
                  rotate_left
                  · simp only [Act.put, List.setIfInBounds_toArray, List.set_cons_zero, List.set_cons_succ, i64_w, i32_w]
                    rfl
                  refine pure_ (i := 15) (N := some 149) (v := ?_) (a' := ?_) #[true, true, true, true, true, true, true, true, true, true, true, true, true, true, true, true, false, false, false, false, false, false, false, false] rfl rfl (by kernel_rfl) (fun _ _ _ h => h) (Or.inl ⟨by rfl, ?_⟩) ?_ ?_
                  rotate_left
                  · intro w'
                    go_simp
                    with_reducible rfl
                  rotate_left
                  · simp only [Act.put, List.setIfInBounds_toArray, List.set_cons_zero, List.set_cons_succ, i64_w, i32_w]
                    rfl
                  refine pure_ (i := 16) (N := some 150) (v := ?_) (a' := ?_) #[true, true, true, true, true, true, true, true, true, true, true, true, true, true, true, true, true, false, false, false, false, false, false, false] rfl rfl (by kernel_rfl) (fun _ _ _ h => h) (Or.inl ⟨by rfl, ?_⟩) ?_ ?_
                  rotate_left
                  · intro w'
                    go_simp
                    with_reducible rfl
                  rotate_left
                  · simp only [Act.put, List.setIfInBounds_toArray, List.set_cons_zero, List.set_cons_succ, i64_w, i32_w]
                    rfl
                  refine pure_ (i := 17) (N := some 151) (v := ?_) (a' := ?_) #[true, true, true, true, true, true, true, true, true, true, true, true, true, true, true, true, true, true, false, false, false, false, false, false] rfl rfl (by kernel_rfl) (fun _ _ _ h => h) (Or.inl ⟨by rfl, ?_⟩) ?_ ?_
                  rotate_left
                  · intro w'
                    go_simp
                    with_reducible rfl
                  rotate_left
                  · simp only [Act.put, List.setIfInBounds_toArray, List.set_cons_zero, List.set_cons_succ, i64_w, i32_w]
                    rfl
                  refine pure_ (i := 19) (N := some 153) (v := ?_) (a' := ?_) #[true, true, true, true, true, true, true, true, true, true, true, true, true, true, true, true, true, true, false, true, false, false, false, false] rfl rfl (by kernel_rfl) (fun _ _ _ h => h) (Or.inl ⟨by rfl, ?_⟩) ?_ ?_
                  rotate_left
                  · intro w'
                    go_simp
                    with_reducible rfl
                  rotate_left
                  · simp only [Act.put, List.setIfInBounds_toArray, List.set_cons_zero, List.set_cons_succ, i64_w, i32_w]
                    rfl
                  refine take_ (i := 20) (N := some 154) (v := ?_) (a' := ?_) #[true, true, true, true, true, true, true, true, true, true, true, true, true, true, true, true, true, true, false, true, true, false, false, false] rfl rfl (by kernel_rfl) (fun _ _ _ h => h) (Or.inl ⟨by rfl, ?_⟩) hHeld ?_ ?_
                  rotate_left
                  · rintro w' ⟨s0, s1⟩
                    go_simp
                    with_reducible rfl
                  rotate_left
                  · simp only [Act.put, List.setIfInBounds_toArray, List.set_cons_zero, List.set_cons_succ, i64_w, i32_w]
                    rfl
                  refine pure_ (i := 21) (N := some 155) (v := ?_) (a' := ?_) #[true, true, true, true, true, true, true, true, true, true, true, true, true, true, true, true, true, true, false, true, true, true, false, false] rfl rfl (by kernel_rfl) (fun _ _ _ h => h) (Or.inl ⟨by rfl, ?_⟩) ?_ ?_
                  rotate_left
                  · intro w'
                    go_simp
                    with_reducible rfl
                  rotate_left
                  · simp only [Act.put, List.setIfInBounds_toArray, List.set_cons_zero, List.set_cons_succ, i64_w, i32_w]
                    rfl
                  refine one_ (i := 18) (N := some 152) #[true, true, true, true, true, true, true, true, true, true, true, true, true, true, true, true, true, true, true, true, true, true, false, false] rfl rfl (by kernel_rfl) (by decide) (fun K hK => ?_)
                  refine goes_ Try.func20 (by kernel_rfl) rfl #[.pointer (some ⟨b, 0, none⟩)] (by rfl) rfl rfl (by simp only [List.map_toArray, List.map_cons, List.map_nil]; rfl) ?_
                  with_reducible refine (HL2.out).mono ?_
                  rintro e w9 ⟨rfl, rfl⟩
                  refine ⟨_, rfl, ?_⟩
                  refine hK.out _ _ ⟨z0, z1⟩ (fun hHeld => ?_)
                  clear hK K
                  refine norm_ (a' := ?_) ?_ ?_
                  rotate_left
                  · show Act.put _ (some 152) _ = _
                    simp only [Act.put, List.setIfInBounds_toArray, List.set_cons_zero, List.set_cons_succ, i64_w, i32_w]
                    rfl
                  refine pure_ (i := 22) (N := some 156) (v := ?_) (a' := ?_) #[true, true, true, true, true, true, true, true, true, true, true, true, true, true, true, true, true, true, true, true, true, true, true, false] rfl rfl (by kernel_rfl) (fun _ _ _ h => h) (Or.inl ⟨by rfl, ?_⟩) ?_ ?_
                  rotate_left
                  · intro w'
                    go_simp
                    with_reducible rfl
                  rotate_left
                  · simp only [Act.put, List.setIfInBounds_toArray, List.set_cons_zero, List.set_cons_succ, i64_w, i32_w]
                    rfl
                  refine pure_ (i := 23) (N := some 157) (v := ?_) (a' := ?_) #[true, true, true, true, true, true, true, true, true, true, true, true, true, true, true, true, true, true, true, true, true, true, true, true] rfl rfl (by kernel_rfl) (fun _ _ _ h => h) (Or.inl ⟨by rfl, ?_⟩) ?_ ?_
                  rotate_left
                  · intro w'
                    go_simp
                    with_reducible rfl
                  rotate_left
                  · simp only [Act.put, List.setIfInBounds_toArray, List.set_cons_zero, List.set_cons_succ, i64_w, i32_w]
                    rfl
                  refine done_ (by kernel_rfl) ?_
                  have b78 := b7.drew.trans (q8.mono s7)
                  clear HB HL1 HL2 z0 z1 x0 x1 q8 d7'
                  go_wp2
                  go_roundw
                  case rel => exact ⟨k + 1, by omega, by go_num, b78, vs', last', d8, hg1, hv1⟩
                  case measure => simp [intOf]; omega
      · go_wp2
        go_ret
        exact ⟨rfl, hb⟩
end Go.Proofs.Ytlfimleciemobab
