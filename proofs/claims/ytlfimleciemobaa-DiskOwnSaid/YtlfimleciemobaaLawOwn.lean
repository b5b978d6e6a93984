/- DiskOwn: what was handed in, and answered, may be written over. -/
import Derived.Test.YtlfimleciemobaaDiskE
import Derived.Test.YtlfimleciemobaaOpen
import Derived.Test.YtlfimleciemobaaOver
set_option linter.unusedVariables false
set_option linter.unusedSimpArgs false
namespace Go.Proofs.Ytlfimleciemobaa
open Go.RowKit PrintLast

theorem foot_not {w : World} {b : Nat} {r : Option Nat} {s : DS} (h : DiskAt w b r s) {B : Nat} (hb : B ≤ b) (hr : ∀ k, r = some k → B ≤ k) {j : Nat} (hj : j < B ∨ w.heap.size ≤ j) : ¬ Foot b r j := by
  have hl := h.lt
  rintro (e | e)
  · omega
  · have := hr j e; have := hl.2 j e; omega

set_option maxHeartbeats 1600000 in
theorem own_walk {w : World} {A A' : Option Addr} {c c' : Nat} {p q : List UInt8} {b : Int} (hp : BSA w A c p) (hq : BSA w A' c' q) (hb : (Lit.int .u8 b).wf = true) :
    Calls Try.prog 4 #[.slice A p.length c, .slice A' q.length c', .int .u8 b] w fun e w' => e = .returned (.bool true) ∧ Below w.heap.size w w' := by
  obtain ⟨b, rfl⟩ : ∃ b8 : UInt8, b = (b8.toNat : Int) := ⟨UInt8.ofNat b.toNat, (u8_of_int hb).symm⟩
  clear hb
  by_cases h1 : 40 < p.length
  · have t1 : decide ((40 : Int) < (p.length : Int)) = true := by simp; omega
    go_enter Try.func4, Try.ntmps4
    go_wp2_with fail
    refine keeps_any.mono ?_
    rintro e w1 ⟨rfl, hb1⟩
    go_wp2_with fail
    refine keeps_any.mono ?_
    rintro e w2 ⟨rfl, hb2⟩
    go_wp2
    go_ret
    exact ⟨rfl, below_then hb1 hb2⟩
  · by_cases h2 : 40 < q.length
    · have t1 : decide ((40 : Int) < (p.length : Int)) = false := by simp; omega
      have t2 : decide ((40 : Int) < (q.length : Int)) = true := by simp; omega
      go_enter Try.func4, Try.ntmps4
      go_wp2_with fail
      refine keeps_any.mono ?_
      rintro e w1 ⟨rfl, hb1⟩
      go_wp2_with fail
      refine keeps_any.mono ?_
      rintro e w2 ⟨rfl, hb2⟩
      go_wp2
      go_ret
      exact ⟨rfl, below_then hb1 hb2⟩
    · have t1 : decide ((40 : Int) < (p.length : Int)) = false := by simp; omega
      have t2 : decide ((40 : Int) < (q.length : Int)) = false := by simp; omega
      go_enter Try.func4, Try.ntmps4
      go_wp2_with fail
      refine keeps_any.mono ?_
      rintro e w1 ⟨rfl, b1⟩
      have p1 := hp.below b1
      have q1 := hq.below b1
      go_wp2_with fail
      refine (join_any p1 (BSA.nil w1) (by simp; omega)).mono ?_
      rintro e w2 ⟨Ax, cx, rfl, mx⟩
      go_wp2_with fail
      refine (join_any (q1.below mx.2.2) (BSA.nil w2) (by simp; omega)).mono ?_
      rintro e w3 ⟨Ay, cy, rfl, my⟩
      -- the copies, as rows; the blocks they lie in
      have s1 := b1.size
      have s2 := mx.2.2.size
      have s3 := my.2.2.size
      have b3 : Below w.heap.size w w3 := below_then (below_then b1 mx.2.2) my.2.2
      have ox : w3.ownsRow 0 5 1 (.slice Ax p.length cx) p.length (bytesV p) := by simpa using below_own my.2.2 mx.1
      have oy : w3.ownsRow 0 5 1 (.slice Ay q.length cy) q.length (bytesV q) := by simpa using my.1
      have bx : ∀ k, (Value.slice Ax p.length cx).ownBlock = some k → w.heap.size ≤ k ∧ k < w2.heap.size := fun k hk => ⟨by have := mx.2.1 k (by simpa using hk); omega, by obtain ⟨cur, hc⟩ := own_block mx.1 (by simpa using hk); exact lt_of_block hc⟩
      have byl : ∀ k, (Value.slice Ay q.length cy).ownBlock = some k → w.heap.size ≤ k ∧ w2.heap.size ≤ k ∧ k < w3.heap.size := fun k hk => ⟨by have := my.2.1 k (by simpa using hk); omega, by have := my.2.1 k (by simpa using hk); omega, by obtain ⟨cur, hc⟩ := own_block oy hk; exact lt_of_block hc⟩
      clear mx my b1 p1 q1
      obtain ⟨_, _, x3⟩ := own_bsa ox
      go_wp2_with fail
      refine (new_any x3 (by omega)).mono ?_
      rintro e w4 ⟨d, r, rfl, d4, hd, hr, b4⟩
      have s4 := b4.size
      obtain ⟨_, _, y4⟩ := own_bsa (below_own b4 oy)
      have ox4 := below_own b4 ox
      have oy4 := below_own b4 oy
      clear ox oy x3
      go_wp2_with fail
      refine (append_at d4 y4 (by simp; omega)).mono ?_
      rintro e w5 ⟨rfl, r5, d5, n5, k5⟩
      have s5 := k5.size
      have hr5 : ∀ k, r5 = some k → w3.heap.size ≤ k := fun k hk => by
        rcases n5 k hk with h | h
        · exact hr k h
        · omega
      have nf : ∀ k, k < w3.heap.size → ¬ Foot d r k := fun k hk e => by
        rcases e with e | e
        · omega
        · have := hr k e; omega
      have ox5 : RowOf w5 5 (.slice Ax p.length cx) p.length := ⟨p, rfl, k5.own ox4 (fun k hk => nf k (by have := bx k hk; omega))⟩
      have oy5 : RowOf w5 5 (.slice Ay q.length cy) q.length := ⟨q, rfl, k5.own oy4 (fun k hk => nf k (by have := byl k hk; omega))⟩
      have b5 : Below w.heap.size w w5 := (below_then b3 b4).trans ⟨k5.os, k5.tape, k5.output, k5.size, fun k hk => k5.block k (by omega) (nf k (by omega))⟩
      have e5 : (⟨p, p.length, 0, false⟩ : DS).append q = ⟨p ++ q, p.length, 0, false⟩ := rfl
      rw [e5] at d5
      clear ox4 oy4 y4 d4 b4 b3 nf k5 n5 hr
      -- the state behind which nothing of the copies counts
      obtain ⟨B, hB⟩ : ∃ B, B = w3.heap.size := ⟨_, rfl⟩
      rw [← hB] at hr5 hd
      have hxy : ∀ k, (Value.slice Ax p.length cx).ownBlock = some k → (Value.slice Ay q.length cy).ownBlock ≠ some k := fun k h1 h2 => by have := bx k h1; have := byl k h2; omega
      have bx' : ∀ k, (Value.slice Ax p.length cx).ownBlock = some k → w.heap.size ≤ k ∧ k < B := fun k hk => by have := bx k hk; omega
      have by' : ∀ k, (Value.slice Ay q.length cy).ownBlock = some k → w.heap.size ≤ k ∧ k < B := fun k hk => by have := byl k hk; omega
      clear bx byl
      go_wp2
      go_loopw [10] (fun i wr => ∃ k : Nat, k ≤ p.length ∧ i = .int .i64 k ∧ Below w.heap.size w wr ∧ RowOf wr 5 (.slice Ax p.length cx) p.length ∧ RowOf wr 5 (.slice Ay q.length cy) q.length ∧ DiskAt wr d r5 ⟨p ++ q, p.length, 0, false⟩) (fun i _ => p.length - (intOf i).toNat)
      case atStart => exact ⟨0, Nat.zero_le _, rfl, b5, ox5, oy5, d5⟩
      case round =>
        clear b5 ox5 oy5 d5
        obtain ⟨k, hk, rfl, b6, ox6, oy6, d6⟩ := hrel
        by_cases hlt : k < p.length
        · obtain ⟨g, cur, rfl, _, hg, hc⟩ := ox6.form hlt
          have gb := bx' g rfl
          have c0 := cell_at hg (i := k) (v := cur[k]) (by simp)
          have f0 := free_at hg k
          have R := hid (show Below w.heap.size w (wr.setCell ⟨g, k, none⟩ (.int .u8 (b.toNat : Int))) ∧ RowOf (wr.setCell ⟨g, k, none⟩ (.int .u8 (b.toNat : Int))) 5 (.slice (some ⟨g, 0, none⟩) p.length cx) p.length ∧ RowOf (wr.setCell ⟨g, k, none⟩ (.int .u8 (b.toNat : Int))) 5 (.slice Ay q.length cy) q.length ∧ DiskAt (wr.setCell ⟨g, k, none⟩ (.int .u8 (b.toNat : Int))) d r5 ⟨p ++ q, p.length, 0, false⟩ from
            ⟨b6.setCell (p := ⟨g, k, none⟩) gb.1 _, ox6.set b, oy6.keeps (Keeps.cellOf wr g k _) (fun j hj e => hxy g rfl (e ▸ hj)), d6.keeps (Keeps.cellOf wr g k _) (by omega) (fun j hj e => by have := hr5 j hj; omega)⟩)
          clear b6 ox6 oy6 d6 hg
          go_wp2
          go_roundw
          case rel => exact ⟨k + 1, by omega, by go_num, R.out⟩
          case measure => simp [intOf]; omega
        · go_wp2
          go_loopw [11] (fun i wr => ∃ k : Nat, k ≤ q.length ∧ i = .int .i64 k ∧ Below w.heap.size w wr ∧ RowOf wr 5 (.slice Ay q.length cy) q.length ∧ DiskAt wr d r5 ⟨p ++ q, p.length, 0, false⟩) (fun i _ => q.length - (intOf i).toNat)
          case atStart => exact ⟨0, Nat.zero_le _, rfl, b6, oy6, d6⟩
          case round =>
            clear b6 ox6 oy6 d6
            obtain ⟨k', hk', rfl, b7, oy7, d7⟩ := hrel
            by_cases hlt' : k' < q.length
            · obtain ⟨g, cur, rfl, _, hg, hc⟩ := oy7.form hlt'
              have gb := by' g rfl
              have c0 := cell_at hg (i := k') (v := cur[k']) (by simp)
              have f0 := free_at hg k'
              have R := hid (show Below w.heap.size w (wr.setCell ⟨g, k', none⟩ (.int .u8 (b.toNat : Int))) ∧ RowOf (wr.setCell ⟨g, k', none⟩ (.int .u8 (b.toNat : Int))) 5 (.slice (some ⟨g, 0, none⟩) q.length cy) q.length ∧ DiskAt (wr.setCell ⟨g, k', none⟩ (.int .u8 (b.toNat : Int))) d r5 ⟨p ++ q, p.length, 0, false⟩ from
                ⟨b7.setCell (p := ⟨g, k', none⟩) gb.1 _, oy7.set b, d7.keeps (Keeps.cellOf wr g k' _) (by omega) (fun j hj e => by have := hr5 j hj; omega)⟩)
              clear b7 oy7 d7 hg
              go_wp2
              go_roundw
              case rel => exact ⟨k' + 1, by omega, by go_num, R.out⟩
              case measure => simp [intOf]; omega
            · go_wp2_with fail
              refine (read_any d7 (by simp; omega)).mono ?_
              rintro e w8 ⟨Az, cz, rfl, oz, bz, b8⟩
              have s7 := b7.size
              have s8 := b8.size
              have d8 := d7.keeps (Keeps.of_below (S := fun _ => False) b8) (fun e => e) (fun _ _ e => e)
              have dl := d7.lt
              have b8' := below_then b7 b8
              obtain ⟨n, hn⟩ : ∃ n, n = (p ++ q).length := ⟨_, rfl⟩
              have oz' : RowOf w8 5 (.slice Az n cz) n := ⟨p ++ q, hn.symm, by rw [hn]; exact oz⟩
              have bz' : ∀ k, (Value.slice Az n cz).ownBlock = some k → wr.heap.size ≤ k := by rw [hn]; exact bz
              have hnl : n ≤ 80 := by simp at hn; omega
              obtain ⟨M, hM⟩ : ∃ M, M = wr.heap.size := ⟨_, rfl⟩
              rw [← hM] at bz' dl s7 s8
              clear hM
              clear d7 b7 b8 oz bz oy7
              simp only [← hn]
              clear hn
              go_wp2
              go_loopw [13] (fun i wr2 => ∃ k : Nat, k ≤ n ∧ i = .int .i64 k ∧ Below w.heap.size w wr2 ∧ RowOf wr2 5 (.slice Az n cz) n ∧ DiskAt wr2 d r5 ⟨p ++ q, p.length, 0, false⟩) (fun i _ => n - (intOf i).toNat)
              case atStart => exact ⟨0, Nat.zero_le _, rfl, b8', oz', d8⟩
              case round =>
                clear b8' oz' d8
                obtain ⟨k2, hk2, rfl, b9, oz9, d9⟩ := hrel
                by_cases hlt2 : k2 < n
                · obtain ⟨g, cur, rfl, _, hg, hc⟩ := oz9.form hlt2
                  have gb := bz' g rfl
                  have c0 := cell_at hg (i := k2) (v := cur[k2]) (by simp)
                  have f0 := free_at hg k2
                  have R := hid (show Below w.heap.size w (wr.setCell ⟨g, k2, none⟩ (.int .u8 (b.toNat : Int))) ∧ RowOf (wr.setCell ⟨g, k2, none⟩ (.int .u8 (b.toNat : Int))) 5 (.slice (some ⟨g, 0, none⟩) n cz) n ∧ DiskAt (wr.setCell ⟨g, k2, none⟩ (.int .u8 (b.toNat : Int))) d r5 ⟨p ++ q, p.length, 0, false⟩ from
                    ⟨b9.setCell (p := ⟨g, k2, none⟩) (by show _ ≤ g; omega) _, oz9.set b, d9.keeps (Keeps.cellOf wr g k2 _) (by have := dl.1; omega) (fun j hj e => by have := dl.2 j hj; omega)⟩)
                  clear b9 oz9 d9 hg
                  go_wp2
                  go_roundw
                  case rel => exact ⟨k2 + 1, by omega, by go_num, R.out⟩
                  case measure => simp [intOf]; omega
                · have p9 := hp.below b9
                  have q9 := hq.below b9
                  have HD := hid d9
                  clear d9 oz9
                  go_wp2_with fail
                  refine (read_any HD.out (by simp; omega)).mono ?_
                  rintro e wa ⟨Aa, ca, rfl, oa, ba, ka⟩
                  obtain ⟨_, _, ya⟩ := own_bsa oa
                  go_wp2_with fail
                  refine (join_any (p9.below ka) (q9.below ka) (by omega)).mono ?_
                  rintro e wb ⟨Ab, cb, rfl, mb⟩
                  have yb := mb.bsa
                  have ya' := ya.below mb.2.2
                  have BB := bytes_any ya' yb
                  have cl : decide (p ++ q = p ++ q) = true := by simp
                  rw [cl] at BB
                  have el : (p ++ q).length = p.length + q.length := by simp
                  simp only [el] at BB ⊢
                  have HB := hid BB
                  clear BB cl el
                  go_wp2_with fail
                  refine HB.out.mono ?_
                  rintro e wd ⟨rfl, bd⟩
                  go_wp2
                  go_ret
                  exact ⟨rfl, below_then (below_then (below_then b9 ka) mb.2.2) bd⟩
end Go.Proofs.Ytlfimleciemobaa
