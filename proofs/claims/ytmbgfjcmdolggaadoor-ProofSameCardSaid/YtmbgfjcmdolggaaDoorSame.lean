/- The walks of Same of both, of like. -/
import Derived.Test.YtmbgfjcmdolggaaDoorREnc
set_option linter.unusedVariables false
set_option linter.unusedSimpArgs false
namespace Go.Proofs.YtmbgfjcmdolggaaDoor
open Go.RowKit PrintLast

def sameB (p q : Prf) : Bool := decide (p.side = q.side) && decide (p.kind = q.kind) && decide (p.key = q.key) && decide (p.row = q.row)
theorem sameB_self (p : Prf) : sameB p p = true := by simp [sameB]
/-- A proof that is read. -/
def PrfAt (w : World) (A : Option Addr) (n c : Nat) (B : Option Addr) (m d : Nat) (p : Prf) : Prop := p.side.length = n ∧ p.row.length = m ∧ n ≤ 1000000000 ∧ TxtAt w A p.side ∧ BSA w B d p.row
theorem PrfAt.below {w w' : World} {A B : Option Addr} {n c m d : Nat} {p : Prf} (h : PrfAt w A n c B m d p) (hb : Below w.heap.size w w') : PrfAt w' A n c B m d p :=
  ⟨h.1, h.2.1, h.2.2.1, h.2.2.2.1.below hb, h.2.2.2.2.below hb⟩
theorem alloc2 (w : World) (o1 o2 : Obj) : ((w.alloc o1).alloc o2).heap[w.heap.size]? = some o1 ∧ ((w.alloc o1).alloc o2).heap[w.heap.size + 1]? = some o2 ∧ Below w.heap.size w ((w.alloc o1).alloc o2) := by
  have s1 : (w.alloc o1).heap.size = w.heap.size + 1 := by simp
  have h1 := heap_alloc_new w o1
  have h2 := heap_alloc_new (w.alloc o1) o2
  rw [s1] at h2
  have b1 := below_alloc (Below.refl _ (w.alloc o1)) o2
  exact ⟨below_heap b1 h1, h2, below_alloc (below_alloc (Below.refl _ w) o1) o2⟩
theorem kind_bne {a b : UInt8} (h : a ≠ b) : ((a.toNat : Int) == (b.toNat : Int)) = false := by
  rw [beq_eq_false_iff_ne]
  intro e
  exact h (UInt8.toNat_inj.1 (by omega))
/-- Bytes that are alike, their numbers under names. -/
theorem bytes_n {w : World} {A B : Option Addr} {c d n m : Nat} {x y : List UInt8} (h1 : x.length = n) (h2 : y.length = m) (hx : BSA w A c x) (hy : BSA w B d y) :
    Calls Tryd.prog 19 #[.slice A n c, .slice B m d] w fun e w' => e = .returned (.bool (decide (x = y))) ∧ Below w.heap.size w w' := by
  subst h1 h2
  exact bytes_any hx hy

set_option maxRecDepth 100000 in
set_option maxHeartbeats 6400000 in
theorem rsame_any {w : World} {A B A' B' : Option Addr} {n c m d n' c' m' d' : Nat} {p q : Prf} (hp : PrfAt w A n c B m d p) (hq : PrfAt w A' n' c' B' m' d' q) :
    Calls Tryd.prog 42 #[.agg #[.slice A n c, .int .u8 (p.kind.toNat : Int), .string p.key, .slice B m d], .agg #[.slice A' n' c', .int .u8 (q.kind.toNat : Int), .string q.key, .slice B' m' d']] w fun e w' => e = .returned (.bool (sameB p q)) ∧ Below w.heap.size w w' := by
  obtain ⟨g0, g1, al⟩ := alloc2 w (.cells #[.slice A n c, .int .u8 (p.kind.toNat : Int), .string p.key, .slice B m d] 36) (.cells #[.slice A' n' c', .int .u8 (q.kind.toNat : Int), .string q.key, .slice B' m' d'] 36)
  obtain ⟨S, hS⟩ : ∃ S, S = w.heap.size := ⟨_, rfl⟩
  obtain ⟨ps, pk, pkey, pr⟩ := p
  obtain ⟨qs, qk, qkey, qr⟩ := q
  obtain ⟨hn, hm, hnb, hA, hB⟩ := hp
  obtain ⟨hn', hm', hnb', hA', hB'⟩ := hq
  have HA := hid (hA.below al)
  have HA' := hid (hA'.below al)
  have HB := hid hB
  have HB' := hid hB'
  have HN := hid (And.intro hn hn')
  have HM := hid (And.intro hm hm')
  rw [← hS] at g0 g1 al
  have HS := hid hS
  have SB : Hid (∀ b, (decide (ps = qs) && decide (pk = qk) && decide (pkey = qkey) && decide (pr = qr)) = b → sameB ⟨ps, pk, pkey, pr⟩ ⟨qs, qk, qkey, qr⟩ = b) := hid (fun b h => h)
  clear hA hA' hB hB' hn hn' hm hm' hS
  go_enter Tryd.func42, Tryd.ntmps42
  go_upto_region 1 with fail
  rw [← HS.out]
  generalize hW : (w.alloc (.cells #[.slice A n c, .int .u8 (pk.toNat : Int), .string pkey, .slice B m d] 36)).alloc (.cells #[.slice A' n' c', .int .u8 (qk.toNat : Int), .string qkey, .slice B' m' d'] 36) = W at *
  have HT := hid (texts_any (c := c) (d := c') HN.out.1 HN.out.2 HA.out HA'.out hnb hnb')
  obtain ⟨S1, hS1⟩ : ∃ S1, S1 = S + 1 := ⟨_, rfl⟩
  rw [← hS1] at g1 ⊢
  have o01 : S < S1 := by omega
  clear hS1
  obtain ⟨v0, v1, v2, v3, -, -, -, -⟩ := four g0
  obtain ⟨u0, u1, u2, u3, -, -, -, -⟩ := four g1
  clear hW HA HA'
  go_wp2_with fail
  refine HT.out.mono ?_
  rintro e w1 ⟨rfl, b1⟩
  have h0 := below_heap b1 g0
  have h1 := below_heap b1 g1
  have B1 := al.trans (b1.mono (by have := lt_of_block g0; omega))
  clear v0 v1 v2 v3 u0 u1 u2 u3 g0 g1 HT al b1
  obtain ⟨v0, v1, v2, v3, -, -, -, -⟩ := four h0
  obtain ⟨u0, u1, u2, u3, -, -, -, -⟩ := four h1
  by_cases hs : ps = qs
  · have d0 : decide (ps = qs) = true := by simp [hs]
    rw [d0]
    by_cases hk : pk = qk
    · have t1 : ((pk.toNat : Int) == (qk.toNat : Int)) = true := by rw [hk]; simp
      by_cases hy : pkey = qkey
      · have t2 : (pkey.toList == qkey.toList) = true := by rw [hy]; simp
        have HR := hid (bytes_n HM.out.1 HM.out.2 (HB.out.below (show Below w.heap.size w w1 by rw [← HS.out]; exact B1)) (HB'.out.below (show Below w.heap.size w w1 by rw [← HS.out]; exact B1)))
        have FIN : Hid (sameB ⟨ps, pk, pkey, pr⟩ ⟨qs, qk, qkey, qr⟩ = decide (pr = qr)) := hid (SB.out _ (by simp [hs, hk, hy]))
        clear hs hk hy d0 h0 h1 HB HB' SB
        go_wp2_with fail
        refine HR.out.mono ?_
        rintro e w2 ⟨rfl, b2⟩
        have B2 : Below w.heap.size w w2 := by rw [← HS.out]; exact B1.trans (b2.mono (by have := v0; have := World.block_lt_of_cell? w1 _ v0; show S ≤ w1.heap.size; have h9 : S < w1.heap.size := this; omega))
        clear HR v0 v1 v2 v3 u0 u1 u2 u3
        go_wp2
        go_ret
        exact ⟨by rw [FIN.out]; rfl, B2⟩
      · have t2 : (pkey.toList == qkey.toList) = false := by rw [str_beq]; simp [hy]
        have FIN := hid (SB.out false (by simp [hy]))
        clear hs hk hy d0 h0 h1 SB
        rw [HS.out] at B1
        go_wp2
        go_ret
        exact ⟨by rw [FIN.out]; rfl, B1⟩
    · have t1 := kind_bne hk
      have FIN := hid (SB.out false (by simp [hk]))
      clear hs hk d0 h0 h1 SB
      rw [HS.out] at B1
      go_wp2
      go_ret
      exact ⟨by rw [FIN.out]; rfl, B1⟩
  · have d0 : decide (ps = qs) = false := by simp [hs]
    rw [d0]
    have FIN := hid (SB.out false (by simp [hs]))
    clear hs d0 h0 h1 SB
    rw [HS.out] at B1
    go_wp2
    go_ret
    exact ⟨by rw [FIN.out]; rfl, B1⟩

set_option maxRecDepth 100000 in
set_option maxHeartbeats 6400000 in
theorem psame_any {w : World} {A B A' B' : Option Addr} {n c m d n' c' m' d' : Nat} {p q : Prf} (hp : PrfAt w A n c B m d p) (hq : PrfAt w A' n' c' B' m' d' q) :
    Calls Tryd.prog 17 #[.agg #[.slice A n c, .int .u8 (p.kind.toNat : Int), .string p.key, .slice B m d], .agg #[.slice A' n' c', .int .u8 (q.kind.toNat : Int), .string q.key, .slice B' m' d']] w fun e w' => e = .returned (.bool (sameB p q)) ∧ Below w.heap.size w w' := by
  obtain ⟨g0, g1, al⟩ := alloc2 w (.cells #[.slice A n c, .int .u8 (p.kind.toNat : Int), .string p.key, .slice B m d] 30) (.cells #[.slice A' n' c', .int .u8 (q.kind.toNat : Int), .string q.key, .slice B' m' d'] 30)
  obtain ⟨S, hS⟩ : ∃ S, S = w.heap.size := ⟨_, rfl⟩
  obtain ⟨ps, pk, pkey, pr⟩ := p
  obtain ⟨qs, qk, qkey, qr⟩ := q
  obtain ⟨hn, hm, hnb, hA, hB⟩ := hp
  obtain ⟨hn', hm', hnb', hA', hB'⟩ := hq
  have HA := hid (hA.below al)
  have HA' := hid (hA'.below al)
  have HB := hid hB
  have HB' := hid hB'
  have HN := hid (And.intro hn hn')
  have HM := hid (And.intro hm hm')
  rw [← hS] at g0 g1 al
  have HS := hid hS
  have SB : Hid (∀ b, (decide (ps = qs) && decide (pk = qk) && decide (pkey = qkey) && decide (pr = qr)) = b → sameB ⟨ps, pk, pkey, pr⟩ ⟨qs, qk, qkey, qr⟩ = b) := hid (fun b h => h)
  clear hA hA' hB hB' hn hn' hm hm' hS
  go_enter Tryd.func17, Tryd.ntmps17
  go_upto_region 1 with fail
  rw [← HS.out]
  generalize hW : (w.alloc (.cells #[.slice A n c, .int .u8 (pk.toNat : Int), .string pkey, .slice B m d] 30)).alloc (.cells #[.slice A' n' c', .int .u8 (qk.toNat : Int), .string qkey, .slice B' m' d'] 30) = W at *
  have HT := hid (equalT_any (c := c) (d := c') HN.out.1 HN.out.2 HA.out HA'.out hnb hnb')
  obtain ⟨S1, hS1⟩ : ∃ S1, S1 = S + 1 := ⟨_, rfl⟩
  rw [← hS1] at g1 ⊢
  have o01 : S < S1 := by omega
  clear hS1
  obtain ⟨v0, v1, v2, v3, -, -, -, -⟩ := four g0
  obtain ⟨u0, u1, u2, u3, -, -, -, -⟩ := four g1
  clear hW HA HA'
  go_wp2_with fail
  refine HT.out.mono ?_
  rintro e w1 ⟨rfl, b1⟩
  have h0 := below_heap b1 g0
  have h1 := below_heap b1 g1
  have B1 := al.trans (b1.mono (by have := lt_of_block g0; omega))
  clear v0 v1 v2 v3 u0 u1 u2 u3 g0 g1 HT al b1
  obtain ⟨v0, v1, v2, v3, -, -, -, -⟩ := four h0
  obtain ⟨u0, u1, u2, u3, -, -, -, -⟩ := four h1
  by_cases hs : ps = qs
  · have d0 : decide (ps = qs) = true := by simp [hs]
    rw [d0]
    by_cases hk : pk = qk
    · have t1 : ((pk.toNat : Int) == (qk.toNat : Int)) = true := by rw [hk]; simp
      by_cases hy : pkey = qkey
      · have t2 : (pkey.toList == qkey.toList) = true := by rw [hy]; simp
        have HR := hid (equalB_any HM.out.1 HM.out.2 (HB.out.below (show Below w.heap.size w w1 by rw [← HS.out]; exact B1)) (HB'.out.below (show Below w.heap.size w w1 by rw [← HS.out]; exact B1)))
        have FIN : Hid (sameB ⟨ps, pk, pkey, pr⟩ ⟨qs, qk, qkey, qr⟩ = decide (pr = qr)) := hid (SB.out _ (by simp [hs, hk, hy]))
        clear hs hk hy d0 h0 h1 HB HB' SB
        go_wp2_with fail
        refine HR.out.mono ?_
        rintro e w2 ⟨rfl, rfl⟩
        have B2 : Below w.heap.size w w1 := by rw [← HS.out]; exact B1
        clear HR v0 v1 v2 v3 u0 u1 u2 u3
        go_wp2
        go_ret
        exact ⟨by rw [FIN.out]; rfl, B2⟩
      · have t2 : (pkey.toList == qkey.toList) = false := by rw [str_beq]; simp [hy]
        have FIN := hid (SB.out false (by simp [hy]))
        clear hs hk hy d0 h0 h1 SB
        rw [HS.out] at B1
        go_wp2
        go_ret
        exact ⟨by rw [FIN.out]; rfl, B1⟩
    · have t1 := kind_bne hk
      have FIN := hid (SB.out false (by simp [hk]))
      clear hs hk d0 h0 h1 SB
      rw [HS.out] at B1
      go_wp2
      go_ret
      exact ⟨by rw [FIN.out]; rfl, B1⟩
  · have d0 : decide (ps = qs) = false := by simp [hs]
    rw [d0]
    have FIN := hid (SB.out false (by simp [hs]))
    clear hs d0 h0 h1 SB
    rw [HS.out] at B1
    go_wp2
    go_ret
    exact ⟨by rw [FIN.out]; rfl, B1⟩

set_option maxRecDepth 100000 in
set_option maxHeartbeats 6400000 in
theorem like_any {w : World} {A B A' B' : Option Addr} {n c m d n' c' m' d' : Nat} {p q : Prf} (hp : PrfAt w A n c B m d p) (hq : PrfAt w A' n' c' B' m' d' q) :
    Calls Tryd.prog 18 #[.agg #[.slice A n c, .int .u8 (p.kind.toNat : Int), .string p.key, .slice B m d], .agg #[.slice A' n' c', .int .u8 (q.kind.toNat : Int), .string q.key, .slice B' m' d']] w fun e w' => e = .returned (.bool (sameB p q)) ∧ Below w.heap.size w w' := by
  obtain ⟨g0, g1, al⟩ := alloc2 w (.cells #[.slice A n c, .int .u8 (p.kind.toNat : Int), .string p.key, .slice B m d] 30) (.cells #[.slice A' n' c', .int .u8 (q.kind.toNat : Int), .string q.key, .slice B' m' d'] 36)
  obtain ⟨S, hS⟩ : ∃ S, S = w.heap.size := ⟨_, rfl⟩
  have HR := hid (rsame_any (hp.below al) (hq.below al))
  rw [← hS] at g0 g1 al
  have HS := hid hS
  clear hp hq hS
  go_enter Tryd.func18, Tryd.ntmps18
  go_upto_region 1 with fail
  rw [← HS.out]
  generalize hW : (w.alloc (.cells #[.slice A n c, .int .u8 (p.kind.toNat : Int), .string p.key, .slice B m d] 30)).alloc (.cells #[.slice A' n' c', .int .u8 (q.kind.toNat : Int), .string q.key, .slice B' m' d'] 36) = W at *
  obtain ⟨S1, hS1⟩ : ∃ S1, S1 = S + 1 := ⟨_, rfl⟩
  rw [← hS1] at g1 ⊢
  have o01 : S < S1 := by omega
  clear hS1
  have sz : S ≤ W.heap.size := by have := lt_of_block g0; omega
  obtain ⟨v0, v1, v2, v3, -, -, -, -⟩ := four g0
  obtain ⟨u0, u1, u2, u3, -, -, -, -⟩ := four g1
  clear hW g0 g1
  go_wp2_with fail
  refine HR.out.mono ?_
  rintro e w2 ⟨rfl, b2⟩
  have B2 : Below w.heap.size w w2 := by rw [← HS.out]; exact al.trans (b2.mono sz)
  clear HR v0 v1 v2 v3 u0 u1 u2 u3
  go_wp2
  go_ret
  exact ⟨rfl, B2⟩
end Go.Proofs.YtmbgfjcmdolggaaDoor
