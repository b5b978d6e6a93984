/- The walk of the reference's Decode. -/
import Derived.Test.YtcfjciencggflaaDoorPrfB
set_option linter.unusedVariables false
set_option linter.unusedSimpArgs false
namespace Go.Proofs.YtcfjciencggflaaDoor
open Go.RowKit PrintLast

def none4 : Array Value := #[.slice none 0 0, .int .u8 0, .string ⟨#[]⟩, .slice none 0 0]
/-- The error's number, and the proof. -/
def resB (q : List UInt8) : Nat × Prf :=
  match decB q with
  | .error e => (e, ⟨[], 0, ⟨#[]⟩, []⟩)
  | .ok p => (0, p)
/-- A proof, as the walk lays it. -/
def prfV (A : Option Addr) (c : Nat) (B : Option Addr) (d : Nat) (p : Prf) : Array Value := #[.slice A p.side.length c, .int .u8 (p.kind.toNat : Int), .string p.key, .slice B p.row.length d]
/-- What Decode answers. -/
def Decoded (w : World) (q : List UInt8) (x : Ending) (w' : World) : Prop :=
  ∃ A c B d, x = .returned (.tuple #[.agg (prfV A c B d (resB q).2), .int .i64 ((resB q).1 : Int)]) ∧ Txt w' w.heap.size A c (resB q).2.side ∧ Row w' w.heap.size B d (resB q).2.row ∧ Below w.heap.size w w'
theorem decoded_err {w w' : World} {q : List UInt8} {e : Nat} (h : decB q = .error e) (hb : Below w.heap.size w w') : Decoded w q (.returned (.tuple #[.agg none4, .int .i64 (e : Int)])) w' := by
  have h' : resB q = (e, ⟨[], 0, ⟨#[]⟩, []⟩) := by unfold resB; rw [h]
  unfold Decoded
  rw [h']
  exact ⟨none, 0, none, 0, rfl, Txt.nil _ _, Row.nil _ _, hb⟩
theorem decoded_ok {w w' : World} {q : List UInt8} {p : Prf} (h : decB q = .ok p) {A B : Option Addr} {c d : Nat} (hA : Txt w' w.heap.size A c p.side) (hB : Row w' w.heap.size B d p.row) (hb : Below w.heap.size w w') :
    Decoded w q (.returned (.tuple #[.agg (prfV A c B d p), .int .i64 0])) w' := by
  have h' : resB q = (0, p) := by unfold resB; rw [h]
  unfold Decoded
  rw [h']
  exact ⟨A, c, B, d, rfl, hA, hB, hb⟩

/-! ### what is read, step by step -/
theorem decB_short {q : List UInt8} (h : q.length < 2) : decB q = .error 3 := by unfold decB; rw [if_pos h]
theorem decB_many_ {q : List UInt8} (h : ¬ q.length < 2) (h2 : 256 < readNat (q.take 2)) : decB q = .error 2 := by unfold decB; rw [if_neg h, if_pos h2]
theorem decB_sides {q : List UInt8} {m i : Nat} (h : ¬ q.length < 2) (hm : m = readNat (q.take 2)) (h2 : ¬ 256 < m) (hi : i < m) (h3 : q.length - (2 + 32 * i) < 32) : decB q = .error 3 := by
  unfold decB
  rw [if_neg h, ← hm, if_neg h2, if_pos (by rw [List.length_drop]; omega)]
theorem decB_on {q : List UInt8} {m : Nat} (h : ¬ q.length < 2) (hm : m = readNat (q.take 2)) (h2 : ¬ 256 < m) (h3 : 2 + 32 * m ≤ q.length) : decB q = endB (sidesB m (q.drop 2)) (q.drop (2 + 32 * m)) := by
  unfold decB
  rw [if_neg h, ← hm, if_neg h2, if_neg (by rw [List.length_drop]; omega), List.drop_drop]

theorem info36 : (Tryd.prog.info? 36).map (·.size) = some 4 := by kernel_rfl

theorem four {w : World} {g : Nat} {x y z u : Value} {t : TypeId} (h : w.heap[g]? = some (.cells #[x, y, z, u] t (0, 0))) :
    w.cell? ⟨g, 0, none⟩ = some x ∧ w.cell? ⟨g, 1, none⟩ = some y ∧ w.cell? ⟨g, 2, none⟩ = some z ∧ w.cell? ⟨g, 3, none⟩ = some u ∧ w.frozen? ⟨g, 0, none⟩ = false ∧ w.frozen? ⟨g, 1, none⟩ = false ∧ w.frozen? ⟨g, 2, none⟩ = false ∧ w.frozen? ⟨g, 3, none⟩ = false :=
  ⟨cell_at h rfl, cell_at h rfl, cell_at h rfl, cell_at h rfl, free_at h 0, free_at h 1, free_at h 2, free_at h 3⟩
theorem endB_nil (s : List ByteArray) : endB s [] = .error 3 := rfl
theorem endB_form {s : List ByteArray} {k : UInt8} {r : List UInt8} (h : 2 < k.toNat) : endB s (k :: r) = .error 2 := by simp only [endB]; rw [if_pos h]
theorem endB_other (s : List ByteArray) (r : List UInt8) : endB s (2 :: r) = otherB s 2 r := rfl
theorem endB_own (s : List ByteArray) (r : List UInt8) : endB s (1 :: r) = rowB s 1 ⟨#[]⟩ r := rfl
theorem endB_none (s : List ByteArray) (r : List UInt8) : endB s (0 :: r) = lastB ⟨s, 0, ⟨#[]⟩, []⟩ r := rfl
theorem drop_cons {q : List UInt8} {p : Nat} (h : p < q.length) : q.drop p = q[p] :: q.drop (p + 1) := List.drop_eq_getElem_cons h
/-- What is left behind the key. -/
def tailB (s : List ByteArray) (k : UInt8) (key : ByteArray) (l : List UInt8) : Except Nat Prf := if k = 0 then lastB ⟨s, k, key, []⟩ l else rowB s k key l

set_option maxRecDepth 100000 in
set_option maxHeartbeats 6400000 in
theorem rdec_any {w : World} {A : Option Addr} {c n : Nat} {q : List UInt8} (hn : q.length = n) (hq : BSA w A c q) (hb : n ≤ 1000000) :
    Calls Tryd.prog 18 #[.slice A n c] w (Decoded w q) := by
  obtain ⟨g0, g1, g2, al⟩ := alloc3 w (.cells #[.slice none 0 0, .int .u8 0, .string ⟨#[]⟩, .slice none 0 0] 36) (.cells #[.slice none 0 0, .int .u8 0, .string ⟨#[]⟩, .slice none 0 0] 36) (.cells #[.slice none 0 0, .int .u8 0, .string ⟨#[]⟩, .slice none 0 0] 36)
  have hq0 := hq.below al
  have HQ := hid hq
  obtain ⟨S, hS⟩ : ∃ S, S = w.heap.size := ⟨_, rfl⟩
  rw [← hS] at g0 g1 g2 al
  have HS := hid hS
  clear hq hS
  go_enter Tryd.func18, Tryd.ntmps18
  go_upto_region 2 with fail
  rw [← HS.out]
  generalize hW : ((w.alloc (.cells #[.slice none 0 0, .int .u8 0, .string ⟨#[]⟩, .slice none 0 0] 36)).alloc (.cells #[.slice none 0 0, .int .u8 0, .string ⟨#[]⟩, .slice none 0 0] 36)).alloc (.cells #[.slice none 0 0, .int .u8 0, .string ⟨#[]⟩, .slice none 0 0] 36) = W at *
  have sal := al.size
  obtain ⟨b2, hb2⟩ : ∃ b, b = S + 1 + 1 := ⟨_, rfl⟩
  obtain ⟨b1, hb1⟩ : ∃ b, b = S + 1 := ⟨_, rfl⟩
  rw [← hb2] at g2 ⊢
  rw [← hb1] at g1 ⊢
  have o12 : b1 < b2 := by omega
  have o01 : S < b1 := by omega
  have sW : S ≤ W.heap.size := by have := lt_of_block g0; omega
  clear hW hb1 hb2 sal
  have FE : Hid (∀ (W' : World) (e : Nat), W'.heap[S]? = some (.cells #[.slice none 0 0, .int .u8 0, .string ⟨#[]⟩, .slice none 0 0] 36 (0, 0)) → Below S w W' → decB q = .error e → Decoded w q (.returned (.tuple #[.agg #[.slice none 0 0, .int .u8 0, .string ⟨#[]⟩, .slice none 0 0], .int .i64 (e : Int)])) (set4 W' S (.slice none 0 0) (.int .u8 0) (.string ⟨#[]⟩) (.slice none 0 0))) := hid (by
    intro W' e _ hB he
    refine decoded_err he ?_
    rw [← HS.out]
    exact set4_below hB (Nat.le_refl _) _ _ _ _)
  have HN := hid hn
  obtain ⟨n0, n1, n2, n3, n0', n1', n2', n3'⟩ := four g1
  obtain ⟨s0, s1, s2, s3, s0', s1', s2', s3'⟩ := four g0
  by_cases h2 : n < 2
  · have t1 : decide ((n : Int) < 2) = true := by simp; omega
    have E := hid (FE.out W 3 g0 al (decB_short (by rw [HN.out]; exact h2)))
    have G := hid (set4_heap (a := .slice none 0 0) (b := .int .u8 0) (c := .string ⟨#[]⟩) (d := .slice none 0 0) g0)
    clear g0 g1 g2 al hq0 hn
    go_wp2
    refine bodyPost_ret (ret_cell_tmp rfl rfl G.out Tryd.underlying36 rfl info36) rfl ?_
    exact E.out
  · have t1 : decide ((n : Int) < 2) = false := by simp; omega
    obtain ⟨g, o, rfl⟩ := hq0.place (by rw [hn]; omega)
    have hc1 := hq0.1
    have hc2 := hq0.2.1
    unfold maxLen at hc2
    rw [hn] at hc1
    have lt : (q.take 2).length = 2 := by rw [List.length_take, hn]; omega
    obtain ⟨m, hm⟩ : ∃ m, m = readNat (q.take 2) := ⟨_, rfl⟩
    have hm2 : m < 65536 := by
      have := readNat_lt 2 _ lt
      rw [hm]; exact this
    have R1 := readN_any (hq0.head 2) (by rw [lt]; omega)
    rw [lt, ← hm] at R1
    have HR := hid R1
    have HM := hid hm
    clear hn hq0 lt hm R1
    go_wp2_with fail
    refine HR.out.mono ?_
    rintro e w1 ⟨rfl, rfl⟩
    by_cases hbig : 256 < m
    · have t2 : decide ((256 : Int) < (m : Int)) = true := by simp; omega
      have E := hid (FE.out W 2 g0 al (decB_many_ (by rw [HN.out]; exact h2) (by rw [← HM.out]; exact hbig)))
      have G := hid (set4_heap (a := .slice none 0 0) (b := .int .u8 0) (c := .string ⟨#[]⟩) (d := .slice none 0 0) g0)
      clear g0 g1 g2 al hbig
      go_wp2
      refine bodyPost_ret (ret_cell_tmp rfl rfl G.out Tryd.underlying36 rfl info36) rfl ?_
      exact E.out
    · have t2 : decide ((256 : Int) < (m : Int)) = false := by simp; omega
      have L0 : Txt W S none 0 (sidesB 0 (q.drop 2)) := Txt.nil _ _
      clear n0 n1 n2 n3 n0' n1' n2' n3' s0 s1 s2 s3 s0' s1' s2' s3' HR
      go_wp2
      go_loopw [7, 8] (fun at_ i wr => ∃ (k p c' : Nat) (R : Option Addr), k ≤ m ∧ i = .int .i64 k ∧ at_ = .int .i64 p ∧ Hid (p = 2 + 32 * k) ∧ p ≤ n ∧ Txt wr S R c' (sidesB k (q.drop 2)) ∧ wr.heap[S]? = some (.cells #[.slice none 0 0, .int .u8 0, .string ⟨#[]⟩, .slice none 0 0] 36 (0, 0)) ∧ wr.heap[b1]? = some (.cells #[.slice none 0 0, .int .u8 0, .string ⟨#[]⟩, .slice none 0 0] 36 (0, 0)) ∧ wr.heap[b2]? = some (.cells #[.slice R k c', .int .u8 0, .string ⟨#[]⟩, .slice none 0 0] 36 (0, 0)) ∧ Below S w wr) (fun _ i _ => m - (intOf i).toNat)
      case atStart => exact ⟨0, 2, 0, none, Nat.zero_le _, rfl, rfl, hid rfl, by omega, L0, g0, g1, g2, al⟩
      case round =>
        clear L0 g0 g1 g2 al
        obtain ⟨k, p, c', R, hk, rfl, rfl, hp, hpn, hL, g0, g1, g2, hB⟩ := hrel
        have hp1 : p ≤ 2 + 32 * k := Nat.le_of_eq hp.out
        have hp2 : 2 + 32 * k ≤ p := Nat.le_of_eq hp.out.symm
        have hqr : BSA wr (some ⟨g, o, none⟩) c q := HQ.out.below (by rw [← HS.out]; exact hB)
        have sB : S ≤ wr.heap.size := by have := lt_of_block g0; omega
        obtain ⟨n0, n1, n2, n3, n0', n1', n2', n3'⟩ := four g1
        obtain ⟨s0, s1, s2, s3, s0', s1', s2', s3'⟩ := four g0
        obtain ⟨v0, v1, v2, v3, v0', v1', v2', v3'⟩ := four g2
        by_cases hlt : k < m
        · have t3 : decide ((k : Int) < (m : Int)) = true := by simp; omega
          by_cases hs : n - p < 32
          · have t4 : decide ((n : Int) - (p : Int) < 32) = true := by simp; omega
            have E := hid (FE.out wr 3 g0 hB (decB_sides (by rw [HN.out]; exact h2) HM.out hbig hlt (by rw [HN.out, ← hp.out]; exact hs)))
            have G := hid (set4_heap (a := .slice none 0 0) (b := .int .u8 0) (c := .string ⟨#[]⟩) (d := .slice none 0 0) g0)
            clear g0 g1 g2 hB hqr hL hs
            go_wp2
            refine bodyPost_ret (ret_cell_tmp rfl rfl G.out Tryd.underlying36 rfl info36) rfl ?_
            exact E.out
          · have t4 : decide ((n : Int) - (p : Int) < 32) = false := by simp; omega
            obtain ⟨A1, c1, S1, B1, L1⟩ := cut_run (k := p) (h := p + 32) HN.out hqr (by omega) (by omega) (by omega)
            rw [show p + 32 - p = 32 by omega] at S1 B1 L1
            rw [show ((p + 32 : Nat) : Int) = (p : Int) + 32 by omega] at S1
            have hx := B1 wr hqr
            obtain ⟨x, hxe⟩ : ∃ x, x = (q.drop p).take 32 := ⟨_, rfl⟩
            rw [← hxe] at hx L1
            have L1' := hid L1
            have NX : Hid (sidesB (k + 1) (q.drop 2) = sidesB k (q.drop 2) ++ [strB x]) := hid (by rw [sidesB_next, hxe, List.drop_drop, ← hp.out])
            obtain ⟨LS, hLS⟩ : ∃ LS, LS = sidesB k (q.drop 2) := ⟨_, rfl⟩
            rw [← hLS] at NX hL
            have LL : Hid (LS.length = k) := hid (by rw [hLS, sidesB_length])
            have GG := hid (And.intro g0 (And.intro g1 (And.intro g2 (And.intro hB hL))))
            have HX := hid hx
            have hs' : p + 32 ≤ n := by omega
            have u1 : wrap64 ((p : Int) + 32) = (p : Int) + 32 := by unfold wrap64; omega
            clear B1 L1 hxe hLS hqr hs n0 n1 n2 n3 n0' n1' n2' n3' s0 s1 s2 s3 s0' s1' s2' s3' v1 v2 v3 v1' v2' v3' g0 g1 g2 hB hL hx
            go_wp2
            refine start_ (n := 12) (S := fun w' => w'.cell? ⟨b2, 0, none⟩ = some (.slice R k c')) (ds := [11]) #[false, false, false, false, false, false, false, false, false, false, false, false] (by kernel_rfl) rfl rfl (v0) (fun hHeld => ?_)
            refine pure_ (i := 0) (N := some 33) (v := ?_) (a' := ?_) #[true, false, false, false, false, false, false, false, false, false, false, false] rfl rfl (by kernel_rfl) (fun _ _ _ h => h) (Or.inl ⟨by rfl, ?_⟩) ?_ ?_
            rotate_left
            · intro w'
              go_simp
              with_reducible rfl
            rotate_left
            · simp only [Act.put, List.setIfInBounds_toArray, List.set_cons_zero, List.set_cons_succ, i64_w, i32_w]
              rfl
            refine pure_ (i := 2) (N := some 35) (v := ?_) (a' := ?_) #[true, false, true, false, false, false, false, false, false, false, false, false] rfl rfl (by kernel_rfl) (fun _ _ _ h => h) (Or.inl ⟨by rfl, ?_⟩) ?_ ?_
            rotate_left
            · intro w'
              go_simp
              with_reducible rfl
            rotate_left
            · simp only [Act.put, List.setIfInBounds_toArray, List.set_cons_zero, List.set_cons_succ, i64_w, i32_w]
              rfl
            refine pure_ (i := 3) (N := some 36) (v := ?_) (a' := ?_) #[true, false, true, true, false, false, false, false, false, false, false, false] rfl rfl (by kernel_rfl) (fun _ _ _ h => h) (Or.inl ⟨by rfl, ?_⟩) ?_ ?_
            rotate_left
            · intro w'
              go_simp
              with_reducible rfl
            rotate_left
            · simp only [Act.put, List.setIfInBounds_toArray, List.set_cons_zero, List.set_cons_succ, i64_w, i32_w]
              rfl
            refine pure_ (i := 4) (N := some 37) (v := ?_) (a' := ?_) #[true, false, true, true, true, false, false, false, false, false, false, false] rfl rfl (by kernel_rfl) (fun _ _ _ h => h) (Or.inl ⟨by rfl, ?_⟩) ?_ ?_
            rotate_left
            · intro w'
              go_simp
              with_reducible rfl
            rotate_left
            · simp only [Act.put, List.setIfInBounds_toArray, List.set_cons_zero, List.set_cons_succ, i64_w, i32_w]
              rfl
            refine pure_ (i := 5) (N := some 38) (v := ?_) (a' := ?_) #[true, false, true, true, true, true, false, false, false, false, false, false] rfl rfl (by kernel_rfl) (fun _ _ _ h => h) (Or.inl ⟨by rfl, ?_⟩) ?_ ?_
            rotate_left
            · intro w'
              go_simp
              with_reducible rfl
            rotate_left
            · simp only [Act.put, List.setIfInBounds_toArray, List.set_cons_zero, List.set_cons_succ, i64_w, i32_w]
              rfl
            refine pure_ (i := 6) (N := some 39) (v := ?_) (a' := ?_) #[true, false, true, true, true, true, true, false, false, false, false, false] rfl rfl (by kernel_rfl) (fun _ _ _ h => h) (Or.inl ⟨by rfl, ?_⟩) ?_ ?_
            rotate_left
            · intro w'
              go_simp
              with_reducible rfl
            rotate_left
            · simp only [Act.put, List.setIfInBounds_toArray, List.set_cons_zero, List.set_cons_succ, i64_w, i32_w]
              rfl
            refine take_ (i := 1) (N := some 34) (v := ?_) (a' := ?_) #[true, true, true, true, true, true, true, false, false, false, false, false] rfl rfl (by kernel_rfl) (fun _ _ _ h => h) (Or.inl ⟨by rfl, ?_⟩) hHeld ?_ ?_
            rotate_left
            · intro w' s0
              go_simp
              with_reducible rfl
            rotate_left
            · simp only [Act.put, List.setIfInBounds_toArray, List.set_cons_zero, List.set_cons_succ, i64_w, i32_w]
              rfl
            refine one_ (i := 7) (N := some 40) #[true, true, true, true, true, true, true, true, false, false, false, false] rfl rfl (by kernel_rfl) (by decide) (fun K hK => ?_)
            have cv := conv_any L1'.out (show BSA wr.drew A1 c1 x from HX.out)
            refine value_ (w1 := ?_) (v := ?_) (by rfl) rfl ?_ ?_
            rotate_left 2
            · go_simp
              constructor
              · rfl
              · rfl
            refine hK.out _ _ (hHeld) (fun hHeld => ?_)
            clear hK K
            refine norm_ (a' := ?_) ?_ ?_
            rotate_left
            · show Act.put _ (some 40) _ = _
              simp only [Act.put, List.setIfInBounds_toArray, List.set_cons_zero, List.set_cons_succ, i64_w, i32_w]
              rfl
            refine one_ (i := 8) (N := some 41) #[true, true, true, true, true, true, true, true, true, false, false, false] rfl rfl (by kernel_rfl) (by decide) (fun K hK => ?_)
            refine value_ (w1 := ?_) (v := ?_) (by rfl) rfl ?_ ?_
            rotate_left 2
            · go_simp
              constructor
              · rfl
              · rfl
            have al0 := below_alloc (Below.refl _ wr.drew) (.cells #[.string (strB x)] 9)
            refine hK.out _ _ ((below_cell al0 hHeld)) (fun hHeld => ?_)
            clear hK K
            refine norm_ (a' := ?_) ?_ ?_
            rotate_left
            · show Act.put _ (some 41) _ = _
              simp only [Act.put, List.setIfInBounds_toArray, List.set_cons_zero, List.set_cons_succ, i64_w, i32_w]
              rfl
            refine one_ (i := 9) (N := some 42) #[true, true, true, true, true, true, true, true, true, true, false, false] rfl rfl (by kernel_rfl) (by decide) (fun K hK => ?_)
            refine step_appT rfl (.tmp 34) (.tmp 41) rfl S (Nat.le_trans sB al0.size) R c' k LS rfl LL.out ((show Txt wr.drew S R c' LS from GG.out.2.2.2.2).below al0) _ (strB x) rfl (cell_at (heap_alloc_new _ _) rfl) (by omega) ?_
            intro R2 c2 w2 m1 m2 m3
            have e2 := ((show Txt wr.drew S R c' LS from GG.out.2.2.2.2).below al0).beside LL.out m2 (below_heap al0 (show wr.drew.heap[b2]? = _ from GG.out.2.2.1)) (by decide)
            have e1 := ((show Txt wr.drew S R c' LS from GG.out.2.2.2.2).below al0).beside LL.out m2 (below_heap al0 (show wr.drew.heap[b1]? = _ from GG.out.2.1)) (by decide)
            have e0 := ((show Txt wr.drew S R c' LS from GG.out.2.2.2.2).below al0).beside LL.out m2 (below_heap al0 (show wr.drew.heap[S]? = _ from GG.out.1)) (by decide)
            have eB := ((show Txt wr.drew S R c' LS from GG.out.2.2.2.2).below al0).grew LL.out m2 (GG.out.2.2.2.1.drew.alloc sB _) (Nat.le_trans sB al0.size)
            have d0 := cell_at e2 (i := 0) (v := .slice R k c') rfl
            have d1 := free_at e2 0
            refine hK.out _ _ (d0) (fun hHeld => ?_)
            clear hK K
            refine norm_ (a' := ?_) ?_ ?_
            rotate_left
            · show Act.put _ (some 42) _ = _
              simp only [Act.put, List.setIfInBounds_toArray, List.set_cons_zero, List.set_cons_succ, i64_w, i32_w]
              rfl
            refine pure_ (i := 10) (N := some 43) (v := ?_) (a' := ?_) #[true, true, true, true, true, true, true, true, true, true, true, false] rfl rfl (by kernel_rfl) (fun _ _ _ h => h) (Or.inl ⟨by rfl, ?_⟩) ?_ ?_
            rotate_left
            · intro w'
              go_simp
              with_reducible rfl
            rotate_left
            · simp only [Act.put, List.setIfInBounds_toArray, List.set_cons_zero, List.set_cons_succ, i64_w, i32_w]
              rfl
            refine last_ (i := 11) (N := none) #[true, true, true, true, true, true, true, true, true, true, true, true] rfl rfl (by kernel_rfl) (by decide) (fun K hK => ?_)
            refine skip_ (w1 := ?_) (by rfl) rfl ?_ ?_
            rotate_left
            · go_simp
              rfl
            refine hK.out _ _ ?_
            clear hK K
            refine done_ (by kernel_rfl) ?_
            have e2' : (w2.setCell ⟨b2, 0, none⟩ (.slice R2 (k + 1) c2)).heap[b2]? = some (.cells #[.slice R2 (k + 1) c2, .int .u8 0, .string ⟨#[]⟩, .slice none 0 0] 36 (0, 0)) := by rw [heap_set e2]; rfl
            have e1' := (keeps_one w2 b2 0 (.slice R2 (k + 1) c2)).heap e1 (by omega)
            have e0' := (keeps_one w2 b2 0 (.slice R2 (k + 1) c2)).heap e0 (by omega)
            have eL' := m1.far (keeps_one w2 b2 0 (.slice R2 (k + 1) c2)) e2 (by decide)
            have eB' := eB.setCell (p := ⟨b2, 0, none⟩) (show S ≤ b2 by omega) (.slice R2 (k + 1) c2)
            rw [← NX.out] at eL'
            have hp' : Hid (p + 32 = 2 + 32 * (k + 1)) := hid (by rw [hp.out]; omega)
            clear m1 m2 m3 e2 e1 e0 eB d0 d1 al0 GG HX cv NX S1 u1 v0 v0' hp
            generalize w2.setCell ⟨b2, 0, none⟩ (.slice R2 (k + 1) c2) = w3 at *
            go_wp2
            go_roundw
            case rel => exact ⟨k + 1, p + 32, c2, R2, hlt, by go_num, by go_num, hp', by omega, eL', e0', e1', e2', eB'⟩
            case measure => simp [intOf]; omega
        · obtain rfl : k = m := by omega
          have t3 : decide ((k : Int) < (k : Int)) = false := by simp
          have DB : Hid (decB q = endB (sidesB k (q.drop 2)) (q.drop p)) := hid (by rw [decB_on (by rw [HN.out]; exact h2) HM.out hbig (by rw [HN.out, ← hp.out]; exact hpn), ← hp.out])
          obtain ⟨LS, hLS⟩ : ∃ LS, LS = sidesB k (q.drop 2) := ⟨_, rfl⟩
          rw [← hLS] at DB hL
          have LL : Hid (LS.length = k) := hid (by rw [hLS, sidesB_length])
          clear hLS hp hp1 hp2 hlt
          by_cases hpe : n ≤ p
          · have t4 : decide ((n : Int) ≤ (p : Int)) = true := by simp; omega
            have t4' : decide (n ≤ p) = true := by simp; omega
            have E := hid (FE.out wr 3 g0 hB (by rw [DB.out, List.drop_of_length_le (by rw [HN.out]; exact hpe)]; exact endB_nil _))
            have G := hid (set4_heap (a := .slice none 0 0) (b := .int .u8 0) (c := .string ⟨#[]⟩) (d := .slice none 0 0) g0)
            clear g0 g1 g2 hB hqr hL hpe
            go_wp2
            refine bodyPost_ret (ret_cell_tmp rfl rfl G.out Tryd.underlying36 rfl info36) rfl ?_
            exact E.out
          · have t4 : decide ((n : Int) ≤ (p : Int)) = false := by simp; omega
            have t4' : decide (n ≤ p) = false := by simp; omega
            have hpl : p < q.length := by rw [HN.out]; omega
            have cx := hqr.at_ p hpl
            have DC := drop_cons hpl
            obtain ⟨x, hx⟩ : ∃ x, x = q[p] := ⟨_, rfl⟩
            rw [← hx] at cx DC
            have DB' : Hid (decB q = endB LS (x :: q.drop (p + 1))) := hid (by rw [DB.out, DC])
            have hx256 := x.toNat_lt
            have g2' : (wr.setCell ⟨b2, 1, none⟩ (.int .u8 (x.toNat : Int))).heap[b2]? = some (.cells #[.slice R k c', .int .u8 (x.toNat : Int), .string ⟨#[]⟩, .slice none 0 0] 36 (0, 0)) := by rw [heap_set g2]; rfl
            have g1' := (keeps_one wr b2 1 (.int .u8 (x.toNat : Int))).heap g1 (by omega)
            have g0' := (keeps_one wr b2 1 (.int .u8 (x.toNat : Int))).heap g0 (by omega)
            have hL' := hL.far (keeps_one wr b2 1 (.int .u8 (x.toNat : Int))) g2 (by decide)
            have hB' := hB.setCell (p := ⟨b2, 1, none⟩) (show S ≤ b2 by omega) (.int .u8 (x.toNat : Int))
            have hpn' : p + 1 ≤ n := by omega
            clear DB DC hx n0 n1 n2 n3 n0' n1' n2' n3' s0 s1 s2 s3 s0' s1' s2' s3' g0 g1 g2 hL hB hqr
            go_upto_region 18 with fail
            generalize hW3 : wr.setCell ⟨b2, 1, none⟩ (.int .u8 (x.toNat : Int)) = w3 at *
            clear hW3 cx v0 v1 v2 v3 v0' v1' v2' v3' hpl hpe t4 t4' sB
            obtain ⟨n0, n1, n2, n3, n0', n1', n2', n3'⟩ := four g1'
            obtain ⟨s0, s1, s2, s3, s0', s1', s2', s3'⟩ := four g0'
            obtain ⟨v0, v1, v2, v3, v0', v1', v2', v3'⟩ := four g2'
            by_cases hform : 2 < x.toNat
            · have t5 : decide ((2 : Int) < (x.toNat : Int)) = true := by simp; omega
              have E := hid (FE.out w3 2 g0' hB' (by rw [DB'.out]; exact endB_form hform))
              have G := hid (set4_heap (a := .slice none 0 0) (b := .int .u8 0) (c := .string ⟨#[]⟩) (d := .slice none 0 0) g0')
              clear g0' g1' g2' hB' hL' hform
              go_wp2
              refine bodyPost_ret (ret_cell_tmp rfl rfl G.out Tryd.underlying36 rfl info36) rfl ?_
              exact E.out
            · have t5 : decide ((2 : Int) < (x.toNat : Int)) = false := by simp; omega
              go_upto_if 64 with fail
              go_cut [7, 9] (fun at_ e wx => ∃ (p1 : Nat) (key : ByteArray), p1 ≤ n ∧ at_ = .int .i64 p1 ∧ e = .int .i64 0 ∧ Hid (decB q = tailB LS x key (q.drop p1)) ∧ Txt wx S R c' LS ∧ wx.heap[S]? = some (.cells #[.slice none 0 0, .int .u8 0, .string ⟨#[]⟩, .slice none 0 0] 36 (0, 0)) ∧ wx.heap[b1]? = some (.cells #[.slice none 0 0, .int .u8 0, .string ⟨#[]⟩, .slice none 0 0] 36 (0, 0)) ∧ wx.heap[b2]? = some (.cells #[.slice R k c', .int .u8 (x.toNat : Int), .string key, .slice none 0 0] 36 (0, 0)) ∧ Below S w wx)
              case first =>
                by_cases hx2 : x = 2
                · have t6 : ((x.toNat : Int) == 2) = true := by rw [hx2]; rfl
                  have HT0 := rtext_any (k := p + 1) HN.out (HQ.out.below (show Below w.heap.size w w3 by rw [← HS.out]; exact hB')) hpn' hb
                  rw [show ((p + 1 : Nat) : Int) = (p : Int) + 1 by omega] at HT0
                  have HT := hid HT0
                  have HX2 := hid hx2
                  clear HT0 hx2
                  go_wp2_with fail
                  refine HT.out.mono ?_
                  rintro e w4 (⟨e, he, rfl | rfl, rfl, rfl⟩ | ⟨A', c4, ks, he, hle, rfl, r4, b4⟩)
                  · skip
                    have E := hid (FE.out w3 2 g0' hB' (by rw [DB'.out, HX2.out, endB_other]; unfold otherB; rw [he]))
                    have G := hid (set4_heap (a := .slice none 0 0) (b := .int .u8 0) (c := .string ⟨#[]⟩) (d := .slice none 0 0) g0')
                    clear g0' g1' g2' hB' hL' he
                    go_wp2
                    refine bodyPost_ret (ret_cell_tmp rfl rfl G.out Tryd.underlying36 rfl info36) rfl ?_
                    exact E.out
                  · skip
                    have E := hid (FE.out w3 3 g0' hB' (by rw [DB'.out, HX2.out, endB_other]; unfold otherB; rw [he]))
                    have G := hid (set4_heap (a := .slice none 0 0) (b := .int .u8 0) (c := .string ⟨#[]⟩) (d := .slice none 0 0) g0')
                    clear g0' g1' g2' hB' hL' he
                    go_wp2
                    refine bodyPost_ret (ret_cell_tmp rfl rfl G.out Tryd.underlying36 rfl info36) rfl ?_
                    exact E.out
                  · have cv := conv_any rfl r4.bsa
                    have DE : Hid (decB q = tailB LS x (strB ks) (q.drop (p + 1 + 2 + ks.length))) := hid (by
                      rw [DB'.out, HX2.out, endB_other]
                      unfold otherB tailB
                      rw [he, if_neg (by decide)])
                    have b4' : Below S w3 w4 := b4.mono (by have := lt_of_block g0'; omega)
                    have hB4 := hB'.trans b4'
                    have hL4 := hL'.below b4
                    have k0 := below_heap b4 g0'
                    have k1 := below_heap b4 g1'
                    have k2 := below_heap b4 g2'
                    rw [HN.out] at hle
                    obtain ⟨v0, v1, v2, v3, v0', v1', v2', v3'⟩ := four k2
                    have k2' : (w4.setCell ⟨b2, 2, none⟩ (.string (strB ks))).heap[b2]? = some (.cells #[.slice R k c', .int .u8 (x.toNat : Int), .string (strB ks), .slice none 0 0] 36 (0, 0)) := by rw [heap_set k2]; rfl
                    have k1' := (keeps_one w4 b2 2 (.string (strB ks))).heap k1 (by omega)
                    have k0' := (keeps_one w4 b2 2 (.string (strB ks))).heap k0 (by omega)
                    have kL' := hL4.far (keeps_one w4 b2 2 (.string (strB ks))) k2 (by decide)
                    have kB' := hB4.setCell (p := ⟨b2, 2, none⟩) (show S ≤ b2 by omega) (.string (strB ks))
                    clear r4 k2 k1 k0 hL4 hB4 b4' b4 g0' g1' g2' hL' hB' n0 n1 n2 n3 n0' n1' n2' n3' s0 s1 s2 s3 s0' s1' s2' s3' HT he
                    go_wp2
                    go_meet
                    exact ⟨_, strB ks, hle, rfl, rfl, DE, kL', k0', k1', k2', kB'⟩
                · have t6 : ((x.toNat : Int) == 2) = false := by
                    rw [beq_eq_false_iff_ne]
                    intro e
                    have h3 : x.toNat = 2 := by omega
                    exact hx2 (UInt8.toNat_inj.1 (by simpa using h3))
                  have DE : Hid (decB q = tailB LS x ⟨#[]⟩ (q.drop (p + 1))) := hid (by
                    rw [DB'.out]
                    rcases kind_three (k := x) (by omega) with rfl | rfl | rfl
                    · rfl
                    · rfl
                    · exact absurd rfl hx2)
                  clear hx2
                  go_wp2
                  go_meet
                  exact ⟨p + 1, ⟨#[]⟩, hpn', by go_num, rfl, DE, hL', g0', g1', g2', hB'⟩
              case rest =>
                obtain ⟨p1, key, hp1, rfl, rfl, DE, kL, k0, k1, k2, kB⟩ := hcut
                clear g0' g1' g2' hB' hL' n0 n1 n2 n3 n0' n1' n2' n3' s0 s1 s2 s3 s0' s1' s2' s3' v0 v1 v2 v3 v0' v1' v2' v3' DB' t5 hpn'
                obtain ⟨n0, n1, n2, n3, n0', n1', n2', n3'⟩ := four k1
                obtain ⟨s0, s1, s2, s3, s0', s1', s2', s3'⟩ := four k0
                obtain ⟨v0, v1, v2, v3, v0', v1', v2', v3'⟩ := four k2
                by_cases hx0 : x = 0
                · have t6 : decide ((0 : Int) < (x.toNat : Int)) = false := by rw [hx0]; rfl
                  have t6' : decide (0 < x.toNat) = false := by rw [hx0]; rfl
                  by_cases hend : p1 < n
                  · have t7 : decide ((p1 : Int) < (n : Int)) = true := by simp; omega
                    have t7' : decide (p1 < n) = true := by simp; omega
                    have E := hid (FE.out wc 2 k0 kB (by rw [DE.out, tailB, if_pos hx0]; unfold lastB; rw [if_neg (by intro e; have := congrArg List.length e; rw [List.length_drop, HN.out] at this; simp at this; omega)]))
                    have G := hid (set4_heap (a := .slice none 0 0) (b := .int .u8 0) (c := .string ⟨#[]⟩) (d := .slice none 0 0) k0)
                    clear k0 k1 k2 kB kL hend hx0
                    go_wp2
                    refine bodyPost_ret (ret_cell_tmp rfl rfl G.out Tryd.underlying36 rfl info36) rfl ?_
                    exact E.out
                  · have t7 : decide ((p1 : Int) < (n : Int)) = false := by simp; omega
                    have t7' : decide (p1 < n) = false := by simp; omega
                    have E : Hid (Decoded w q (.returned (.tuple #[.agg #[.slice R k c', .int .u8 (x.toNat : Int), .string key, .slice none 0 0], .int .i64 0])) (set4 wc S (.slice R k c') (.int .u8 (x.toNat : Int)) (.string key) (.slice none 0 0))) := hid (by
                      have hb5 := set4_below kB (Nat.le_refl S) (.slice R k c') (.int .u8 (x.toNat : Int)) (.string key) (.slice none 0 0)
                      have hl5 : Txt _ S R c' LS := own_far kL (set4_keeps wc S (.slice R k c') (.int .u8 (x.toNat : Int)) (.string key) (.slice none 0 0)) k0 (by decide)
                      have hr5 : Row _ S none 0 [] := own_far (Row.nil wc S) (set4_keeps wc S (.slice R k c') (.int .u8 (x.toNat : Int)) (.string key) (.slice none 0 0)) k0 (by decide)
                      rw [HS.out] at hb5 hl5 hr5
                      have := decoded_ok (p := ⟨LS, x, key, []⟩) (by rw [DE.out, tailB, if_pos hx0]; unfold lastB; rw [if_pos (List.drop_of_length_le (by rw [HN.out]; omega))]) hl5 hr5 hb5
                      unfold prfV at this
                      rw [show (Prf.mk LS x key []).side.length = k from LL.out] at this
                      rw [HS.out]
                      exact this)
                    have G := hid (set4_heap (a := .slice R k c') (b := .int .u8 (x.toNat : Int)) (c := .string key) (d := .slice none 0 0) k0)
                    clear k0 k1 k2 kB kL hend hx0
                    go_wp2
                    refine bodyPost_ret (ret_cell_tmp rfl rfl G.out Tryd.underlying36 rfl info36) rfl ?_
                    exact E.out
                · have t6 : decide ((0 : Int) < (x.toNat : Int)) = true := by
                    have : x.toNat ≠ 0 := fun e => hx0 (UInt8.toNat_inj.1 (by simpa using e))
                    simp; omega
                  have t6' : decide (0 < x.toNat) = true := by simpa using t6
                  have HT := hid (rtext_any (k := p1) HN.out (HQ.out.below (show Below w.heap.size w wc by rw [← HS.out]; exact kB)) hp1 hb)
                  go_wp2_with fail
                  refine HT.out.mono ?_
                  rintro e w4 (⟨e, he, rfl | rfl, rfl, rfl⟩ | ⟨A', c4, rs, he, hle, rfl, r4, b4⟩)
                  · skip
                    have e2' : (wc.setCell ⟨b2, 3, none⟩ (.slice none 0 0)).heap[S]? = some (.cells #[.slice none 0 0, .int .u8 0, .string ⟨#[]⟩, .slice none 0 0] 36 (0, 0)) := (keeps_one wc b2 3 (.slice none 0 0)).heap k0 (by omega)
                    have e1' : (wc.setCell ⟨b2, 3, none⟩ (.slice none 0 0)).heap[b1]? = some (.cells #[.slice none 0 0, .int .u8 0, .string ⟨#[]⟩, .slice none 0 0] 36 (0, 0)) := (keeps_one wc b2 3 (.slice none 0 0)).heap k1 (by omega)
                    have eB' := kB.setCell (p := ⟨b2, 3, none⟩) (show S ≤ b2 by omega) (.slice none 0 0)
                    clear n0 n1 n2 n3 n0' n1' n2' n3' s0 s1 s2 s3 s0' s1' s2' s3' k0 k1 k2 kL kB
                    go_upto_region 30 with fail
                    generalize wc.setCell ⟨b2, 3, none⟩ (.slice none 0 0) = w5 at *
                    clear v0 v1 v2 v3 v0' v1' v2' v3'
                    obtain ⟨n0, n1, n2, n3, n0', n1', n2', n3'⟩ := four e1'
                    obtain ⟨s0, s1, s2, s3, s0', s1', s2', s3'⟩ := four e2'
                    have E := hid (FE.out w5 2 e2' eB' (by rw [DE.out, tailB, if_neg hx0]; unfold rowB; rw [he]))
                    have G := hid (set4_heap (a := .slice none 0 0) (b := .int .u8 0) (c := .string ⟨#[]⟩) (d := .slice none 0 0) e2')
                    clear e2' e1' eB' he hx0
                    go_wp2
                    refine bodyPost_ret (ret_cell_tmp rfl rfl G.out Tryd.underlying36 rfl info36) rfl ?_
                    exact E.out
                  · skip
                    have e2' : (wc.setCell ⟨b2, 3, none⟩ (.slice none 0 0)).heap[S]? = some (.cells #[.slice none 0 0, .int .u8 0, .string ⟨#[]⟩, .slice none 0 0] 36 (0, 0)) := (keeps_one wc b2 3 (.slice none 0 0)).heap k0 (by omega)
                    have e1' : (wc.setCell ⟨b2, 3, none⟩ (.slice none 0 0)).heap[b1]? = some (.cells #[.slice none 0 0, .int .u8 0, .string ⟨#[]⟩, .slice none 0 0] 36 (0, 0)) := (keeps_one wc b2 3 (.slice none 0 0)).heap k1 (by omega)
                    have eB' := kB.setCell (p := ⟨b2, 3, none⟩) (show S ≤ b2 by omega) (.slice none 0 0)
                    clear n0 n1 n2 n3 n0' n1' n2' n3' s0 s1 s2 s3 s0' s1' s2' s3' k0 k1 k2 kL kB
                    go_upto_region 30 with fail
                    generalize wc.setCell ⟨b2, 3, none⟩ (.slice none 0 0) = w5 at *
                    clear v0 v1 v2 v3 v0' v1' v2' v3'
                    obtain ⟨n0, n1, n2, n3, n0', n1', n2', n3'⟩ := four e1'
                    obtain ⟨s0, s1, s2, s3, s0', s1', s2', s3'⟩ := four e2'
                    have E := hid (FE.out w5 3 e2' eB' (by rw [DE.out, tailB, if_neg hx0]; unfold rowB; rw [he]))
                    have G := hid (set4_heap (a := .slice none 0 0) (b := .int .u8 0) (c := .string ⟨#[]⟩) (d := .slice none 0 0) e2')
                    clear e2' e1' eB' he hx0
                    go_wp2
                    refine bodyPost_ret (ret_cell_tmp rfl rfl G.out Tryd.underlying36 rfl info36) rfl ?_
                    exact E.out
                  · have b4' : Below S wc w4 := b4.mono (by have := lt_of_block k0; omega)
                    have hB4 := kB.trans b4'
                    have hL4 := kL.below b4
                    have j0 := below_heap b4 k0
                    have j1 := below_heap b4 k1
                    have j2 := below_heap b4 k2
                    have r4' : Row w4 S A' c4 rs := r4.lower (by have := lt_of_block k0; omega)
                    rw [HN.out] at hle
                    have j2' : (w4.setCell ⟨b2, 3, none⟩ (.slice A' rs.length c4)).heap[b2]? = some (.cells #[.slice R k c', .int .u8 (x.toNat : Int), .string key, .slice A' rs.length c4] 36 (0, 0)) := by rw [heap_set j2]; rfl
                    have j1' := (keeps_one w4 b2 3 (.slice A' rs.length c4)).heap j1 (by omega)
                    have j0' := (keeps_one w4 b2 3 (.slice A' rs.length c4)).heap j0 (by omega)
                    have jL' := hL4.far (keeps_one w4 b2 3 (.slice A' rs.length c4)) j2 (by decide)
                    have jr' := r4'.far (keeps_one w4 b2 3 (.slice A' rs.length c4)) j2 (by decide)
                    have jB' := hB4.setCell (p := ⟨b2, 3, none⟩) (show S ≤ b2 by omega) (.slice A' rs.length c4)
                    clear n0 n1 n2 n3 n0' n1' n2' n3' s0 s1 s2 s3 s0' s1' s2' s3' v0 v1 v2 v3 v0' v1' v2' v3'
                    obtain ⟨v0, v1, v2, v3, v0', v1', v2', v3'⟩ := four j2
                    obtain ⟨p2, hp2⟩ : ∃ p2, p2 = p1 + 2 + rs.length := ⟨_, rfl⟩
                    rw [← hp2] at he hle ⊢
                    clear r4 r4' hL4 hB4 b4' b4 j0 j1 j2 k0 k1 k2 kL kB HT hp2
                    go_upto_region 30 with fail
                    generalize w4.setCell ⟨b2, 3, none⟩ (.slice A' rs.length c4) = w5 at *
                    clear v0 v1 v2 v3 v0' v1' v2' v3'
                    obtain ⟨n0, n1, n2, n3, n0', n1', n2', n3'⟩ := four j1'
                    obtain ⟨s0, s1, s2, s3, s0', s1', s2', s3'⟩ := four j0'
                    obtain ⟨v0, v1, v2, v3, v0', v1', v2', v3'⟩ := four j2'
                    by_cases hend : p2 < n
                    · have t7 : decide ((p2 : Int) < (n : Int)) = true := by simp; omega
                      have t7' : decide (p2 < n) = true := by simp; omega
                      have E := hid (FE.out w5 2 j0' jB' (by rw [DE.out, tailB, if_neg hx0]; unfold rowB; rw [he]; simp only []; unfold lastB; rw [if_neg (by intro e; have := congrArg List.length e; rw [List.length_drop, HN.out] at this; simp at this; omega)]))
                      have G := hid (set4_heap (a := .slice none 0 0) (b := .int .u8 0) (c := .string ⟨#[]⟩) (d := .slice none 0 0) j0')
                      clear j0' j1' j2' jB' jL' jr' hend hx0 he
                      go_wp2
                      refine bodyPost_ret (ret_cell_tmp rfl rfl G.out Tryd.underlying36 rfl info36) rfl ?_
                      exact E.out
                    · have t7 : decide ((p2 : Int) < (n : Int)) = false := by simp; omega
                      have t7' : decide (p2 < n) = false := by simp; omega
                      have E : Hid (Decoded w q (.returned (.tuple #[.agg #[.slice R k c', .int .u8 (x.toNat : Int), .string key, .slice A' rs.length c4], .int .i64 0])) (set4 w5 S (.slice R k c') (.int .u8 (x.toNat : Int)) (.string key) (.slice A' rs.length c4))) := hid (by
                        have hb5 := set4_below jB' (Nat.le_refl S) (.slice R k c') (.int .u8 (x.toNat : Int)) (.string key) (.slice A' rs.length c4)
                        have hl5 : Txt _ S R c' LS := own_far jL' (set4_keeps w5 S (.slice R k c') (.int .u8 (x.toNat : Int)) (.string key) (.slice A' rs.length c4)) j0' (by decide)
                        have hr5 : Row _ S A' c4 rs := own_far jr' (set4_keeps w5 S (.slice R k c') (.int .u8 (x.toNat : Int)) (.string key) (.slice A' rs.length c4)) j0' (by decide)
                        rw [HS.out] at hb5 hl5 hr5
                        have := decoded_ok (p := ⟨LS, x, key, rs⟩) (by rw [DE.out, tailB, if_neg hx0]; unfold rowB; rw [he]; simp only []; unfold lastB; rw [if_pos (List.drop_of_length_le (by rw [HN.out]; omega))]) hl5 hr5 hb5
                        unfold prfV at this
                        rw [show (Prf.mk LS x key rs).side.length = k from LL.out] at this
                        rw [HS.out]
                        exact this)
                      have G := hid (set4_heap (a := .slice R k c') (b := .int .u8 (x.toNat : Int)) (c := .string key) (d := .slice A' rs.length c4) j0')
                      clear j0' j1' j2' jB' jL' jr' hend hx0 he
                      go_wp2
                      refine bodyPost_ret (ret_cell_tmp rfl rfl G.out Tryd.underlying36 rfl info36) rfl ?_
                      exact E.out
end Go.Proofs.YtcfjciencggflaaDoor
