/- The walks of a frame, and of the reference's frame; bytes.Equal, bytes.HasPrefix. -/
import Derived.Test.YtponofojildbmaaDoorWalS
import Derived.Test.YtponofojildbmaaDoorShaI
import Derived.Test.YtponofojildbmaaDoorStr
import Derived.Test.YtponofojildbmaaDoorDiskA
import Derived.Lib.AppendStr
set_option linter.unusedVariables false
set_option linter.unusedSimpArgs false
namespace Go.Proofs.YtponofojildbmaaDoor
open Go.RowKit PrintLast

theorem bsz (s : ByteArray) : s.data.toList.length = s.size := by simp
/-- A digest, as a string. -/
def dig (p : List UInt8) : ByteArray := ⟨(sum256 p).toArray⟩
theorem sum_dig {w : World} {A : Option Addr} {c : Nat} {p : List UInt8} {n : Nat} (hn : p.length = n) (hT : Table w) (hp : BSA w A c p) (hb : p.length ≤ 1000000000000) :
    Calls Tryd.prog 37 #[.slice A n c] w fun e w' => e = .returned (.string (dig p)) ∧ Below w.heap.size w w' := by subst hn; exact sum_any hT hp hb
theorem rsum_dig {w : World} {A : Option Addr} {c : Nat} {p : List UInt8} {n : Nat} (hn : p.length = n) (hp : BSA w A c p) (hb : p.length ≤ 1000000000000) :
    Calls Tryd.prog 31 #[.slice A n c] w fun e w' => e = .returned (.string (dig p)) ∧ Below w.heap.size w w' := by subst hn; exact rsum_any hp hb
theorem dig_list (p : List UInt8) : (dig p).data.toList = sum256 p := by simp [dig]
theorem dig_size (p : List UInt8) : (dig p).size = 32 := by
  rw [← bsz, dig_list, sum256_len]
/-- What a call leaves that makes bytes of its own. -/
def Gave (w : World) (L : List UInt8) (e : Ending) (w' : World) : Prop := ∃ A' c', e = .returned (.slice A' L.length c') ∧ Row w' w.heap.size A' c' L ∧ Below w.heap.size w w'
theorem join_gave {w : World} {A B : Option Addr} {c d n1 n2 : Nat} {x y L : List UInt8} (h1 : x.length = n1) (h2 : y.length = n2) (hL : x ++ y = L) (hx : BSA w A c x) (hy : BSA w B d y) (hbig : L.length ≤ 1000000000000) :
    Calls Tryd.prog 13 #[.slice A n1 c, .slice B n2 d] w (Gave w L) := by
  subst h1 h2 hL
  rw [List.length_append] at hbig
  refine (join_any hx hy (by omega)).mono ?_
  rintro e w' ⟨A', c', rfl, m⟩
  exact ⟨A', c', by rw [List.length_append], m.row (by simp), m.2.2⟩
theorem clone_gave {w : World} {A : Option Addr} {c n : Nat} {x : List UInt8} (h1 : x.length = n) (hx : BSA w A c x) (hbig : x.length ≤ 1000000000000) :
    Calls Tryd.prog 36 #[.slice A n c] w (Gave w x) := by
  subst h1
  refine (clone_any hx (by omega)).mono ?_
  rintro e w' ⟨A', c', rfl, m1, m2, m3⟩
  exact ⟨A', c', rfl, Made.row ⟨m1, m2, m3⟩ rfl, m3⟩
theorem lits_row (w : World) {B : Nat} (hB : B ≤ w.heap.size) (l : List UInt8) (hl : l.length ≤ 1000) : Row (w.alloc (.cells (bytesV l).toArray 5)) B (some ⟨w.heap.size, 0, none⟩) l.length l :=
  World.ownsRow_lit (e := 5) (size := 1) w (bytesV l).toArray l.length hB (by unfold maxLen; omega) (by simp [bytesV])
theorem Row.grown {w w' : World} {B c : Nat} {A : Option Addr} {l : List UInt8} {row : Option Nat} (h : Row w B A c l) (hg : w.grownBy w' row) (hn : ∀ k, row = some k → k < B) : Row w' B A c l := by
  refine World.ownsRow.kept h hg ?_
  cases hA : (Value.slice A l.length c).ownBlock with
  | none => exact .inl rfl
  | some k =>
    refine .inr (fun e => ?_)
    have h1 := hn k e.symm
    have h2 := (h.lt k hA).1
    omega

/-- 'append' of a string's bytes to a row of the call's own. -/
theorem wpList_appS {w : World} {ops : Array Oper} {rest : List Oper} {o : Oper} {a : Act} {Q : Exit → Act → World → Prop} (hgd : o.guard = none) (s x : Operand)
    (ho : o.op = .call { callee := .builtin .append, args := #[s, x], argTypes := #[22, 9] }) (B : Nat) (hB : B ≤ w.heap.size)
    (R : Option Addr) (c : Nat) (l : List UInt8) (hs : a.eval s = .slice R l.length c) (hR : Row w B R c l) (q : ByteArray) (hx : a.eval x = .string q)
    (h47 : l.length + q.size ≤ 140737488355328) (n : Nat) (hn : l.length + q.size = n)
    (h : ∀ R' c' w', Row w' B R' c' (l ++ q.data.toList) → Below B w w' → wpList Tryd.prog ops Q rest (a.put o.dst (.slice R' n c')) w') : wpList Tryd.prog ops Q (o :: rest) a w := by
  subst hn
  obtain ⟨i0, hi, hz0, hz1, hz2⟩ := info_parts infU8'
  refine Lib.wpList_append_own_string w hgd s x 22 9 ho B 5 i0 Tryd.underlying22 Tryd.underlying9 hi hz0 hz1 hz2 _ l.length (bytesV l) hs hR q hx (by unfold maxLen; omega) h47 hB ?_
  intro v' w' k1 k2 _
  have e1 : bytesV l ++ Lib.strCells q = bytesV (l ++ q.data.toList) := by rw [bytesV_append]; rfl
  rw [e1] at k1
  have hform : ∃ A' c', v' = .slice A' (l.length + q.size) c' := by
    rcases k1.2 with ⟨e, h0⟩ | ⟨g', cap', cur', e', _⟩
    · rw [e, h0]; exact ⟨_, _, rfl⟩
    · exact ⟨_, _, e'⟩
  obtain ⟨A', c', rfl⟩ := hform
  exact h A' c' w' (by unfold Row; rw [List.length_append, bsz]; exact k1) ((Below.refl B w).grown k2 hB (fun k hk => (hR.lt k hk).1))

theorem ext4 (X : List UInt8) : ((dig X).extract 0 4).data.toList = (sum256 X).take 4 := by simp [dig]
set_option maxHeartbeats 1600000 in
theorem frame_any {w : World} (hT : Table w) {A : Option Addr} {c : Nat} {p : List UInt8} (hp : BSA w A c p) (hb : p.length ≤ 100000000) :
    Calls Tryd.prog 11 #[.slice A p.length c] w (Gave w (frameB p)) := by
  obtain ⟨N, hN⟩ : ∃ N, N = p.length := ⟨_, rfl⟩
  have nb : numBytes N 4 = [UInt8.ofNat (N / 16777216), UInt8.ofNat (N / 65536), UInt8.ofNat (N / 256), UInt8.ofNat (N / 1)] := rfl
  have f3 : (N : Int) / 16777216 = ((UInt8.ofNat (N / 16777216)).toNat : Int) := by rw [UInt8.toNat_ofNat']; omega
  have f2 : ((N : Int) / 65536) % 256 = ((UInt8.ofNat (N / 65536)).toNat : Int) := byte_div N 16
  have f1 : ((N : Int) / 256) % 256 = ((UInt8.ofNat (N / 256)).toNat : Int) := byte_div N 8
  have f0 : (N : Int) % 256 = ((UInt8.ofNat (N / 1)).toNat : Int) := by simp
  obtain ⟨x3, h3⟩ : ∃ x, x = UInt8.ofNat (N / 16777216) := ⟨_, rfl⟩
  obtain ⟨x2, h2⟩ : ∃ x, x = UInt8.ofNat (N / 65536) := ⟨_, rfl⟩
  obtain ⟨x1, h1⟩ : ∃ x, x = UInt8.ofNat (N / 256) := ⟨_, rfl⟩
  obtain ⟨x0, h0⟩ : ∃ x, x = UInt8.ofNat (N / 1) := ⟨_, rfl⟩
  rw [← h3, ← h2, ← h1, ← h0] at nb
  rw [← h3] at f3
  rw [← h2] at f2
  rw [← h1] at f1
  rw [← h0] at f0
  have q0 := lits_row w (Nat.le_refl _) [x3, x2, x1, x0] (by simp)
  have al1 := below_alloc (Below.refl _ w) (.cells (bytesV [x3, x2, x1, x0]).toArray 5)
  have s1 : (w.alloc (.cells (bytesV [x3, x2, x1, x0]).toArray 5)).heap.size = w.heap.size + 1 := by simp
  have hN4 : N ≤ 100000000 := by omega
  rw [← hN]
  have HN := hid hN
  have HB := hid (show numBytes p.length 4 = [x3, x2, x1, x0] by rw [← hN]; exact nb)
  have hC := hid (clone_gave (n := 4) rfl q0.bsa (by simp))
  have p1 := hp.below al1
  have hTb := hT.below al1
  clear h3 h2 h1 h0 nb hN hb
  go_enter Tryd.func11, Tryd.ntmps11
  go_wp2_with fail
  refine hC.out.mono ?_
  rintro e w1 ⟨A1, c1, rfl, r1, b1⟩
  have bb1 := below_then al1 b1
  have q1 := q0.below b1
  have p2 := p1.below b1
  have hT1 := hTb.below b1
  have b1size := b1.size
  clear hC q0 p1 hTb b1 al1
  rw [s1] at r1
  have s1' : w.heap.size + 1 ≤ w1.heap.size := by rw [← s1]; exact b1size
  clear s1 b1size
  obtain ⟨W0, hW0⟩ : ∃ W, W = w.heap.size := ⟨_, rfl⟩
  have HW0 := hid hW0
  rw [← hW0] at r1 bb1
  have sW := bb1.size
  have sW1 : W0 ≤ w1.heap.size := by rw [hW0]; exact bb1.size
  rw [← hW0] at s1'
  clear hW0
  go_wp2_with (at_builtin; refine wpList_app8 22 5 Tryd.underlying22 infU8' rfl (.tmp 21) (.tmp 22) rfl _ [x3, x2, x1, x0] rfl (q1.lower (Nat.zero_le _)) A c p (by rw [← HN.out]; rfl) p2 (by rw [← HN.out]; simp; omega) ?_)
  intro A2 c2 w2 k1 k2 k3 _
  have bb2 : Below W0 w w2 := bb1.grown k2 sW1 (fun k hk => by simp [Value.ownBlock] at hk; have := HW0.out; omega)
  have r2 : Row w2 (W0 + 1) A1 c1 [x3, x2, x1, x0] := r1.grown k2 (fun k hk => by simp [Value.ownBlock] at hk; have := HW0.out; omega)
  have g2 : Below W0 w1 w2 := (Below.refl W0 w1).grown k2 sW1 (fun k hk => by simp [Value.ownBlock] at hk; have := HW0.out; omega)
  have p3 : BSA w2 A c p := hp.below (by rw [← HW0.out]; exact bb2)
  have X2 := (own_bsa k1).2.2
  have hT2 : Table w2 := hT.below (by rw [← HW0.out]; exact bb2)
  have HS := hid (sum_dig (n := [x3, x2, x1, x0].length + p.length) List.length_append hT2 X2 (by simp; have := HN.out; omega))
  have s2' : w1.heap.size ≤ w2.heap.size := k2.size
  clear k1 k2 k3 q1 r1 p2 hT1 g2 X2
  go_wp2_with fail
  refine HS.out.mono ?_
  rintro e w3 ⟨rfl, b3⟩
  have sW2 : W0 ≤ w2.heap.size := by rw [HW0.out]; exact bb2.size
  have bb3 := bb2.trans (b3.mono sW2)
  have s2 : w1.heap.size ≤ w2.heap.size := s2'
  have sW3 : W0 + 1 ≤ w3.heap.size := by have := b3.size; omega
  have r3 := r2.below b3
  have p4 := p3.below b3
  have dsz : ((dig (x3 :: x2 :: x1 :: x0 :: p)).size : Int) = 32 := by rw [dig_size]; rfl
  have hX := HB.out
  obtain ⟨D, hD⟩ : ∃ D, Hid (D = (dig ([x3, x2, x1, x0] ++ p)).extract 0 4) := ⟨_, hid rfl⟩
  have dl : D.data.toList = check4 p := by rw [hD.out, ext4, ← hX]; rfl
  have ds : D.size = 4 := by rw [← bsz, dl, check4_length]
  have DL := hid dl
  have DS := hid ds
  clear HS r2 b3 p3 bb2 hX dl ds s2 sW2
  go_wp2_with (refine wpList_appS rfl (.tmp 20) (.tmp 25) rfl (W0 + 1) sW3 A1 c1 [x3, x2, x1, x0] rfl r3 D (by rw [hD.out]; rfl) (by rw [DS.out]; simp) 8 (by rw [DS.out]; rfl) ?_)
  intro A4 c4 w4 r4 b4
  have bb4 := bb3.trans (b4.mono (Nat.le_succ W0))
  have p5 := hp.below (show Below w.heap.size w w4 by rw [← HW0.out]; exact bb4)
  have sW4 : W0 + 1 ≤ w4.heap.size := Nat.le_trans sW3 b4.size
  rw [DL.out] at r4
  have l8 : ([x3, x2, x1, x0] ++ check4 p).length = 8 := by rw [List.length_append, check4_length]; rfl
  have L8 := hid l8
  clear r3 p4 bb3 b4 l8 dsz sW3
  go_wp2_with (refine wpList_appO rfl (.tmp 26) (.tmp 27) rfl (W0 + 1) sW4 A4 c4 ([x3, x2, x1, x0] ++ check4 p) (by rw [L8.out]; rfl) r4 A c p (by rw [← HN.out]; rfl) p5 (by rw [L8.out, ← HN.out]; omega) (8 + N) (by rw [L8.out, ← HN.out]) ?_)
  intro A5 c5 w5 r5 b5
  have bb5 := bb4.trans (b5.mono (Nat.le_succ W0))
  have hF : [x3, x2, x1, x0] ++ check4 p ++ p = frameB p := by rw [← HB.out]; rfl
  replace r5 : Row w5 (W0 + 1) A5 c5 (frameB p) := by rw [← hF]; exact r5
  have hl : (frameB p).length = 8 + N := by rw [frameB_length, HN.out]
  have HL := hid hl
  clear r4 p5 bb4 b5 hF hl sW4
  go_wp2
  go_ret
  exact ⟨A5, c5, by rw [HL.out]; rfl, (r5.lower (Nat.le_succ W0)).lower (by rw [HW0.out]; exact Nat.le_refl _), by rw [← HW0.out]; exact bb5⟩

set_option maxHeartbeats 1600000 in
theorem rframe_any {w : World} {A : Option Addr} {c : Nat} {p : List UInt8} (hp : BSA w A c p) (hb : p.length ≤ 100000000) :
    Calls Tryd.prog 16 #[.slice A p.length c] w (Gave w (frameB p)) := by
  obtain ⟨N, hN⟩ : ∃ N, N = p.length := ⟨_, rfl⟩
  have aN : (N : Int) % 18446744073709551616 = (N : Int) := by omega
  obtain ⟨nb, hnb⟩ : ∃ L, L = numBytes N 4 := ⟨_, rfl⟩
  have ln : nb.length = 4 := by rw [hnb, numBytes_length]
  obtain ⟨X, hX⟩ : ∃ X, X = nb ++ p := ⟨_, rfl⟩
  obtain ⟨D, hD⟩ : ∃ D, Hid (D = (dig X).extract 0 4) := ⟨_, hid rfl⟩
  have dl : D.data.toList = check4 p := by rw [hD.out, ext4, hX, hnb, hN]; rfl
  have ds : D.size = 4 := by rw [← bsz, dl, check4_length]
  have dsz : ((dig X).size : Int) = 32 := by rw [dig_size]; rfl
  obtain ⟨Y, hY⟩ : ∃ Y, Y = nb ++ check4 p := ⟨_, rfl⟩
  have hF : Y ++ p = frameB p := by rw [hY, hnb, hN]; rfl
  have ly : Y.length = 8 := by rw [hY, List.length_append, ln, check4_length]
  have lx : X.length = 4 + N := by rw [hX, List.length_append, ln, hN]
  obtain ⟨F, hFF⟩ : ∃ F, F = frameB p := ⟨_, rfl⟩
  have lf : F.length = 8 + N := by rw [hFF, frameB_length, hN]
  rw [← hFF] at hF ⊢
  rw [← hN]
  have hNb : N ≤ 100000000 := by omega
  have HN := hid hN
  have NB := hid hnb
  have XX := hid (And.intro hX (And.intro hY hF))
  have LL := hid (And.intro ln (And.intro lx (And.intro ly lf)))
  have DD := hid (And.intro dl ds)
  clear hN hnb hX hY hF hFF ln lx ly lf dl ds hb
  have H0 := num_any (w := w) (n := N) (m := 4) (by omega)
  rw [← NB.out] at H0
  have H := hid H0
  clear H0
  go_enter Tryd.func16, Tryd.ntmps16
  go_wp2_with fail
  refine H.out.mono ?_
  rintro e w1 ⟨A1, c1, rfl, r1, _, b1⟩
  have p1 := hp.below b1
  have H := hid (join_gave LL.out.1 HN.out.symm XX.out.1.symm r1.bsa p1 (by rw [LL.out.2.1]; omega))
  go_wp2_with fail
  refine H.out.mono ?_
  rintro e w2 ⟨A2, c2, rfl, r2, b2⟩
  have bb2 := below_then b1 b2
  have r1' := r1.below b2
  have H := hid (rsum_dig rfl r2.bsa (by rw [LL.out.2.1]; omega))
  clear r1 b1 b2 p1
  go_wp2_with fail
  refine H.out.mono ?_
  rintro e w3 ⟨rfl, b3⟩
  have bb3 := below_then bb2 b3
  have r1 := r1'.below b3
  clear r1' b3 bb2 r2 H
  go_wp2_with (refine wpList_conv rfl (.tmp 15) rfl D (by rw [hD.out]; rfl) (by rw [DD.out.2]; unfold maxLen; omega) ?_)
  intro g4 c4 w4 _ q4 b4
  rw [DD.out.1] at q4
  have bb4 := below_then bb3 b4
  have H := hid (join_gave LL.out.1 (check4_length p) XX.out.2.1.symm (r1.bsa.below b4) q4 (by rw [LL.out.2.2.1]; omega))
  rw [DD.out.2]
  clear r1 b4 bb3 q4 dsz
  go_wp2_with fail
  refine H.out.mono ?_
  rintro e w5 ⟨A5, c5, rfl, r5, b5⟩
  have bb5 := below_then bb4 b5
  have H := hid (join_gave rfl HN.out.symm XX.out.2.2 r5.bsa (hp.below bb5) (by rw [LL.out.2.2.2]; omega))
  clear r5 b5 bb4
  go_wp2_with fail
  refine H.out.mono ?_
  rintro e w6 ⟨A6, c6, rfl, r6, b6⟩
  go_wp2
  go_ret
  exact ⟨A6, c6, rfl, r6.lower bb5.size, below_then bb5 b6⟩

/-- A slice of bytes that are there, as a string. -/
theorem conv_bsa {w : World} {A : Option Addr} {c : Nat} {l : List UInt8} (h : BSA w A c l) (h0 : 0 < l.length) : (convert 22 9 (.slice A l.length c)).run Tryd.prog w = .ok (.string ⟨l.toArray⟩) w := by
  obtain ⟨ad, rfl, c0⟩ := h.cell 0 h0
  obtain ⟨g, o, sp⟩ := ad
  have hs : sp = none := by simpa [Addr.add] using World.cell?_spot c0
  subst hs
  have hadd : ∀ i, (⟨g, o, none⟩ : Addr).add i = ⟨g, o + i, none⟩ := fun i => by unfold Addr.add; split <;> simp_all
  rw [run_convert_bytes_arg w 22 5 Tryd.underlying22 Tryd.underlying5 g o l.length c (l.map fun x => (x.toNat : Int)) (by simp) (fun i hi => ?_) 9 Tryd.underlying9]
  · congr 2
    unfold strOfNums
    congr 2
    rw [List.map_map]
    conv => rhs; rw [← List.map_id l]
    apply List.map_congr_left
    intro x _
    simp
  · have := h.2.2.2 _ rfl i hi
    rw [hadd] at this
    rw [this]
    simp [List.getD_eq_getElem?_getD, hi]

set_option maxHeartbeats 1600000 in
theorem equal_any {w : World} {A B : Option Addr} {c d n m : Nat} {x y : List UInt8} (h1 : x.length = n) (h2 : y.length = m) (hx : BSA w A c x) (hy : BSA w B d y) (x0 : 0 < x.length) (y0 : 0 < y.length) :
    Calls Tryd.prog 60 #[.slice A n c, .slice B m d] w fun e w' => e = .returned (.bool (decide (x = y))) ∧ w = w' := by
  subst h1 h2
  have k1 := conv_bsa hx x0
  have k2 := conv_bsa hy y0
  have e1 : ((⟨x.toArray⟩ : ByteArray).toList == (⟨y.toArray⟩ : ByteArray).toList) = decide (x = y) := by
    rw [ByteArray.toList_mk, ByteArray.toList_mk, Bool.eq_iff_iff]; simp
  have E1 := hid e1
  clear e1 hx hy x0 y0
  go_enter Tryd.func60, Tryd.ntmps60
  go_wp2
  go_ret
  exact ⟨by first | (rw [← E1.out]; rfl) | (rw [← E1.out]; simp), rfl⟩
end Go.Proofs.YtponofojildbmaaDoor
