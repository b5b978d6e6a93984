/- ProofBuilds: the proof of a key is the reference's. -/
import Derived.Test.YtmbgfjcmdolggaaDoorMade10
set_option linter.unusedVariables false
set_option linter.unusedSimpArgs false
namespace Go.Proofs.YtmbgfjcmdolggaaDoor
open Go.RowKit PrintLast

theorem walkT_len (t : Tr) : ∀ (d : Nat) (k : ByteArray), (walkT t d k).1.length ≤ t.ht := by
  induction t with
  | nil => intro d k; simp [walkT]
  | leaf x => intro d k; simp [walkT]
  | node l r ihl ihr =>
    intro d k
    have h1 := ihl (d + 1) k
    have h2 := ihr (d + 1) k
    simp only [walkT, Tr.ht]
    split
    · simp only [List.length_cons]; omega
    · simp only [List.length_cons]; omega
theorem endT_side (s : List ByteArray) (t : Tr) (k : ByteArray) : (endT s t k).side = s := by
  unfold endT
  split
  · split <;> rfl
  · rfl
theorem buildT_len (f : Nat) (l : List Itm) (k : ByteArray) : (buildT (treeF f l) k).side.length ≤ f := by
  unfold buildT
  rw [endT_side]
  exact Nat.le_trans (walkT_len _ _ _) (treeF_ht f l)
/-- A proof that was handed back. -/
def BuiltP (w : World) (p : Prf) (e : Ending) (w' : World) : Prop := ∃ A n c kd ky B m d, e = .returned (.agg #[.slice A n c, .int .u8 kd, .string ky, .slice B m d]) ∧ Hid (PrfAt w' A n c B m d p ∧ (p.kind.toNat : Int) = kd ∧ p.key = ky) ∧ Below w.heap.size w w'
theorem built_p {w : World} {p : Prf} {e : Ending} {w' : World} (h : Built w p e w') (hl : p.side.length ≤ 256) : BuiltP w p e w' := by
  obtain ⟨A, c, B, d, rfl, h1, h2, h3⟩ := h
  exact ⟨A, _, c, _, _, B, _, d, rfl, hid ⟨⟨rfl, rfl, by omega, h1.at_, h2.bsa⟩, rfl, rfl⟩, h3⟩
theorem pbuild2 {w : World} (hT : Table w) {v : Value} {A : Option Addr} {c n k : Nat} {li : List Itm} {L : List RI} {key : ByteArray} (M : PairOf w v A c n k li L) (hk : key.size ≤ 1000000) :
    Calls Tryd.prog 25 #[v, .string key] w (BuiltP w (buildT (treeF 256 li) key)) :=
  (build_tree hT M.2.2.2.1 hk (treeF_ht 256 li) (treeF_small 256 li (fun x hx => by have := M.2.2.2.2.2.2.row x hx; omega))).mono fun _ _ h => built_p h (buildT_len 256 li key)
theorem rbuild2 {w : World} {v : Value} {A : Option Addr} {c n k : Nat} {li : List Itm} {L : List RI} {key : ByteArray} (M : PairOf w v A c n k li L) (hkn : k ≤ 30) (hk : key.size ≤ 1000000) :
    Calls Tryd.prog 28 #[.slice A n c, .string key] w (BuiltP w (buildT (treeF 256 li) key)) := by
  have := rbuild_any (key := key) M.1 M.2.2.2.2.1 M.2.1 (by have := M.2.2.1; omega) hk
  rw [M.same] at this
  exact this.mono fun _ _ h => built_p h (buildT_len 256 li key)
theorem like2 {w : World} {A B A' B' : Option Addr} {n c m d n' c' m' d' : Nat} {kd kd' : Int} {ky ky' : ByteArray} {p : Prf} (hp : PrfAt w A n c B m d p ∧ (p.kind.toNat : Int) = kd ∧ p.key = ky) (hq : PrfAt w A' n' c' B' m' d' p ∧ (p.kind.toNat : Int) = kd' ∧ p.key = ky') :
    Calls Tryd.prog 18 #[.agg #[.slice A n c, .int .u8 kd, .string ky, .slice B m d], .agg #[.slice A' n' c', .int .u8 kd', .string ky', .slice B' m' d']] w fun e w' => e = .returned (.bool true) ∧ Below w.heap.size w w' := by
  obtain ⟨hp, rfl, rfl⟩ := hp
  obtain ⟨hq, rfl, rfl⟩ := hq
  have := like_any hp hq
  rwa [sameB_self] at this
theorem PrfH.below {w w' : World} {A B : Option Addr} {n c m d : Nat} {kd : Int} {ky : ByteArray} {p : Prf} (h : Hid (PrfAt w A n c B m d p ∧ (p.kind.toNat : Int) = kd ∧ p.key = ky)) (hb : Below w.heap.size w w') : Hid (PrfAt w' A n c B m d p ∧ (p.kind.toNat : Int) = kd ∧ p.key = ky) :=
  hid ⟨h.out.1.below hb, h.out.2⟩

set_option maxRecDepth 100000 in
set_option maxHeartbeats 12800000 in
theorem builds_walk {w : World} (hT : Table w) {A : Option Addr} {cap : Nat} {l : List PAct} {u' : Int} {key : ByteArray} (h0 : l.length ≤ cap ∧ cap ≤ maxLen ∧ PActsAt w A l) (hu : (Lit.int .u8 u').wf = true) (_hk : key.size ≤ 140737488351232) :
    Calls Tryd.prog 9 #[.slice A l.length cap, .int .u8 u', .string key] w fun e w' => e = .returned (.bool true) ∧ Below w.heap.size w w' := by
  obtain ⟨u, rfl⟩ : ∃ b8 : UInt8, u' = (b8.toNat : Int) := ⟨UInt8.ofNat u'.toNat, (u8_of_int hu).symm⟩
  obtain ⟨n, hn⟩ : ∃ n, n = l.length := ⟨_, rfl⟩
  rw [← hn] at h0 ⊢
  obtain ⟨ks, hks⟩ : ∃ ks, ks = key.size := ⟨_, rfl⟩
  rw [← hks] at _hk
  have HN := hid hn.symm
  have HKS := hid hks
  have HC := hid (And.intro h0.1 h0.2.1)
  have AA := hid h0.2.2
  have TT := hid hT
  have BB := hid (Below.refl w.heap.size w)
  have esz : key.size = ks := hks.symm
  clear hn hT h0 hu hks
  by_cases hsm : SmallL l
  · have hd : decide (SmallL l) = true := by simp [hsm]
    have SM := hid hsm
    have HD := hid hd
    clear hsm hd
    by_cases h40 : 40 < ks
    · have t1 : decide ((40 : Int) < (ks : Int)) = true := by simp; omega
      have t1' : decide (40 < ks) = true := by simp; omega
      go_enter Tryd.func9, Tryd.ntmps9
      have HC1 := hid (bare_any TT.out)
      go_wp2_with fail
      refine HC1.out.mono ?_
      rintro e w1 ⟨rfl, b1⟩
      clear HC1
      replace TT := hid (TT.out.below b1)
      replace AA := hid (AA.out.below b1)
      replace BB := hid (below_then BB.out b1)
      clear b1
      have S0 := small_any HN.out AA.out HC.out.1 HC.out.2
      rw [HD.out] at S0
      have S1 := hid S0
      clear S0
      go_wp2_with fail
      refine S1.out.mono ?_
      rintro e w2 ⟨rfl, rfl⟩
      clear S1
      have HC2 := hid (bare_any TT.out)
      go_wp2_with fail
      refine HC2.out.mono ?_
      rintro e w3 ⟨rfl, b3⟩
      clear HC2
      replace BB := hid (below_then BB.out b3)
      clear b3
      go_wp2
      go_ret
      exact ⟨rfl, BB.out⟩
    · have t1 : decide ((40 : Int) < (ks : Int)) = false := by simp; omega
      have t1' : decide (40 < ks) = false := by simp; omega
      go_enter Tryd.func9, Tryd.ntmps9
      have HC1 := hid (bare_any TT.out)
      go_wp2_with fail
      refine HC1.out.mono ?_
      rintro e w1 ⟨rfl, b1⟩
      clear HC1
      replace TT := hid (TT.out.below b1)
      replace AA := hid (AA.out.below b1)
      replace BB := hid (below_then BB.out b1)
      clear b1
      have S0 := small_any HN.out AA.out HC.out.1 HC.out.2
      rw [HD.out] at S0
      have S1 := hid S0
      clear S0
      go_wp2_with fail
      refine S1.out.mono ?_
      rintro e w2 ⟨rfl, rfl⟩
      clear S1
      have HC2 := hid (made_any TT.out HN.out AA.out HC.out.1 SM.out)
      go_wp2_with fail
      refine HC2.out.mono ?_
      rintro e w3 ⟨v, MA, mc, mn, li, L, rfl, hM, b3⟩
      clear HC2
      replace TT := hid (TT.out.below b3)
      replace AA := hid (AA.out.below b3)
      replace BB := hid (below_then BB.out b3)
      have MM := hid hM
      clear hM b3
      clear AA
      obtain ⟨kb, hkb⟩ : ∃ kb : UInt8, kb = u % 26 := ⟨_, rfl⟩
      have e1 : (u.toNat : Int) % 26 = (kb.toNat : Int) := by rw [hkb, UInt8.toNat_mod]; rfl
      have cv := key_conv w3 kb
      have al := below_alloc (Below.refl _ w3) (.cells #[.int .u8 107, .int .u8 (kb.toNat : Int)] 5)
      clear hkb
      replace TT := hid (TT.out.below al)
      replace MM := hid (MM.out.below al)
      replace BB := hid (below_then BB.out al)
      clear al
      go_upto_region 5 with fail
      generalize w3.alloc (.cells #[.int .u8 107, .int .u8 (kb.toNat : Int)] 5) = w4 at *
      clear cv e1
      obtain ⟨k1, hk1⟩ : ∃ k1, k1 = key2 kb := ⟨_, rfl⟩
      have HK1 := hid (show k1.size ≤ 1000000 by rw [hk1, key2_size]; omega)
      rw [← hk1]
      have HK2 := hid (show key.size ≤ 1000000 by omega)
      clear hk1
      have HC3 := hid (pbuild2 (key := k1) TT.out MM.out HK1.out)
      go_wp2_with fail
      refine HC3.out.mono ?_
      rintro e w5 ⟨A1, n1, c1, kd1, ky1, B1, m1, d1, rfl, p1, b5⟩
      clear HC3
      replace TT := hid (TT.out.below b5)
      replace MM := hid (MM.out.below b5)
      replace BB := hid (below_then BB.out b5)
      clear b5
      have HC4 := hid (rbuild2 (key := k1) MM.out (Nat.le_refl _) HK1.out)
      go_wp2_with fail
      refine HC4.out.mono ?_
      rintro e w6 ⟨A2, n2, c2, kd2, ky2, B2, m2, d2, rfl, p2, b6⟩
      clear HC4
      replace TT := hid (TT.out.below b6)
      replace MM := hid (MM.out.below b6)
      replace BB := hid (below_then BB.out b6)
      replace p1 := PrfH.below p1 b6
      clear b6
      have HC5 := hid (like2 p1.out p2.out)
      go_wp2_with fail
      refine HC5.out.mono ?_
      rintro e w7 ⟨rfl, b7⟩
      clear HC5 p1 p2
      replace TT := hid (TT.out.below b7)
      replace MM := hid (MM.out.below b7)
      replace BB := hid (below_then BB.out b7)
      clear b7
      have HC6 := hid (pbuild2 (key := key) TT.out MM.out HK2.out)
      go_wp2_with fail
      refine HC6.out.mono ?_
      rintro e w5 ⟨A1, n1, c1, kd1, ky1, B1, m1, d1, rfl, p1, b5⟩
      clear HC6
      replace TT := hid (TT.out.below b5)
      replace MM := hid (MM.out.below b5)
      replace BB := hid (below_then BB.out b5)
      clear b5
      have HC7 := hid (rbuild2 (key := key) MM.out (Nat.le_refl _) HK2.out)
      go_wp2_with fail
      refine HC7.out.mono ?_
      rintro e w6 ⟨A2, n2, c2, kd2, ky2, B2, m2, d2, rfl, p2, b6⟩
      clear HC7
      replace TT := hid (TT.out.below b6)
      replace MM := hid (MM.out.below b6)
      replace BB := hid (below_then BB.out b6)
      replace p1 := PrfH.below p1 b6
      clear b6
      have HC8 := hid (like2 p1.out p2.out)
      go_wp2_with fail
      refine HC8.out.mono ?_
      rintro e w7 ⟨rfl, b7⟩
      clear HC8 p1 p2
      replace TT := hid (TT.out.below b7)
      replace MM := hid (MM.out.below b7)
      replace BB := hid (below_then BB.out b7)
      clear b7
      go_wp2
      go_ret
      exact ⟨rfl, BB.out⟩
  · have hd : decide (SmallL l) = false := by simp [hsm]
    have HD := hid hd
    clear hsm hd
    go_enter Tryd.func9, Tryd.ntmps9
    have HC1 := hid (bare_any TT.out)
    go_wp2_with fail
    refine HC1.out.mono ?_
    rintro e w1 ⟨rfl, b1⟩
    clear HC1
    replace TT := hid (TT.out.below b1)
    replace AA := hid (AA.out.below b1)
    replace BB := hid (below_then BB.out b1)
    clear b1
    have S0 := small_any HN.out AA.out HC.out.1 HC.out.2
    rw [HD.out] at S0
    have S1 := hid S0
    clear S0
    go_wp2_with fail
    refine S1.out.mono ?_
    rintro e w2 ⟨rfl, rfl⟩
    clear S1
    have HC2 := hid (bare_any TT.out)
    go_wp2_with fail
    refine HC2.out.mono ?_
    rintro e w3 ⟨rfl, b3⟩
    clear HC2
    replace BB := hid (below_then BB.out b3)
    clear b3
    go_wp2
    go_ret
    exact ⟨rfl, BB.out⟩
end Go.Proofs.YtmbgfjcmdolggaaDoor
