import Derived.Test.YtmbgfjcmdolggaaDoorMF
import Derived.Test.YtmbgfjcmdolggaaDoorMD
import Derived.Lib.SmallJoins
set_option linter.unusedVariables false
set_option linter.unusedSimpArgs false
/- ProofReads: any bytes. -/
namespace Go.Proofs.YtmbgfjcmdolggaaDoor
open Go.RowKit PrintLast

theorem fits_none : Fits ⟨[], 0, ⟨#[]⟩, []⟩ := ⟨by simp, by simp, by decide, by decide, by simp, fun _ => rfl, fun _ => rfl⟩
theorem resB_fits (q : List UInt8) : Fits (resB q).2 := by
  unfold resB
  split
  · exact fits_none
  · rename_i p h
    exact decB_fits h

set_option maxRecDepth 100000 in
set_option maxHeartbeats 6400000 in
theorem reads_any {w : World} {A : Option Addr} {c n : Nat} {q : List UInt8} (hn : q.length = n) (hq : BSA w A c q) (hb : n ≤ 1000000) :
    Calls Tryd.prog 21 #[.slice A n c] w fun e w' => e = .returned (.bool true) ∧ Below w.heap.size w w' := by
  have D := hid (dec_any hn hq hb)
  have D2 : Hid (∀ w', Below w.heap.size w w' → Calls Tryd.prog 16 #[.slice A n c] w' (Decoded w' q)) := hid (fun w' h => rdec_any hn (hq.below h) hb)
  obtain ⟨S, hS⟩ : ∃ S, S = w.heap.size := ⟨_, rfl⟩
  have HS := hid hS
  have FI := (resB_fits q).2.1
  clear hq hn hS
  go_enter Tryd.func21, Tryd.ntmps21
  go_wp2_with fail
  refine D.out.mono ?_
  rintro e w1 ⟨A1, c1, B1, d1, rfl, t1, r1, b1⟩
  obtain ⟨R, hR⟩ : ∃ R, R = resB q := ⟨_, rfl⟩
  rw [← hR] at t1 r1 FI ⊢
  have HR := hid hR
  obtain ⟨en, p⟩ := R
  clear hR
  obtain ⟨ns, hns⟩ : ∃ ns, ns = p.side.length := ⟨_, rfl⟩
  obtain ⟨nr, hnr⟩ : ∃ nr, nr = p.row.length := ⟨_, rfl⟩
  have p1 : PrfAt w1 A1 ns c1 B1 nr d1 p := ⟨hns.symm, hnr.symm, by show ns ≤ 1000000000; have : p.side.length ≤ 256 := FI; omega, t1.at_, r1.bsa⟩
  unfold prfV
  rw [show (en, p).2.side.length = ns from hns.symm, show (en, p).2.row.length = nr from hnr.symm]
  have HNS := hid (And.intro hns hnr)
  obtain ⟨P1, hP1⟩ : ∃ P1, P1 = w1.heap.size := ⟨_, rfl⟩
  have g1 := heap_alloc_new w1 (.cells #[.slice A1 ns c1, .int .u8 (p.kind.toNat : Int), .string p.key, .slice B1 nr d1] 30)
  have al1 := below_alloc (Below.refl _ w1) (.cells #[.slice A1 ns c1, .int .u8 (p.kind.toNat : Int), .string p.key, .slice B1 nr d1] 30)
  have b1' := below_then b1 al1
  have p1' := p1.below al1
  have D2' := hid (D2.out _ b1')
  rw [← hP1] at g1
  have HP1 := hid hP1
  clear D D2 t1 r1 b1 al1 p1 hns hnr hP1 FI
  go_wp2_with fail
  refine D2'.out.mono ?_
  rintro e w2 ⟨A2, c2, B2, d2, rfl, t2, r2, b2⟩
  rw [← HR.out] at t2 r2 ⊢
  unfold prfV
  rw [show (en, p).2.side.length = ns from HNS.out.1.symm, show (en, p).2.row.length = nr from HNS.out.2.symm]
  have p2 : PrfAt w2 A2 ns c2 B2 nr d2 p := ⟨HNS.out.1.symm, HNS.out.2.symm, p1'.2.2.1, t2.at_, r2.bsa⟩
  have g1' := below_heap b2 g1
  have p1'' := p1'.below b2
  have b2' := below_then b1' b2
  obtain ⟨P2, hP2⟩ : ∃ P2, P2 = w2.heap.size := ⟨_, rfl⟩
  have g2 := heap_alloc_new w2 (.cells #[.slice A2 ns c2, .int .u8 (p.kind.toNat : Int), .string p.key, .slice B2 nr d2] 36)
  have al2 := below_alloc (Below.refl _ w2) (.cells #[.slice A2 ns c2, .int .u8 (p.kind.toNat : Int), .string p.key, .slice B2 nr d2] 36)
  have b3 := below_then b2' al2
  have g1'' := below_heap al2 g1'
  have q1 := p1''.below al2
  have q2 := p2.below al2
  rw [← hP2] at g2
  have HP2 := hid hP2
  have te : ((en : Int) == (en : Int)) = true := by simp
  clear D2' t2 r2 b2 b2' al2 p1' p1'' p2 b1' g1 g1' HR hP2
  rw [← HP1.out]
  go_upto_region 3 with fail
  rw [← HP2.out]
  show Code.wp _ _ _ _ (w2.alloc (.cells #[.slice A2 ns c2, .int .u8 (p.kind.toNat : Int), .string p.key, .slice B2 nr d2] 36))
  generalize w2.alloc (.cells #[.slice A2 ns c2, .int .u8 (p.kind.toNat : Int), .string p.key, .slice B2 nr d2] 36) = w3 at *
  obtain ⟨v0, v1, v2, v3, -, -, -, -⟩ := four g1''
  obtain ⟨u0, u1, u2, u3, -, -, -, -⟩ := four g2
  have L0 := like_any q1 q2
  rw [sameB_self] at L0
  have HL := hid L0
  clear q1 q2 L0 g1'' g2
  go_wp2_with fail
  refine HL.out.mono ?_
  rintro e w4 ⟨rfl, b4⟩
  have B4 := below_then b3 b4
  clear HL
  go_wp2
  go_ret
  exact ⟨rfl, B4⟩

set_option maxRecDepth 100000 in
set_option maxHeartbeats 3200000 in
theorem reads_walk {w : World} (hT : Table w) {A : Option Addr} {c : Nat} {p : List UInt8} (hp : BSA w A c p) :
    Calls Tryd.prog 4 #[.slice A p.length c] w fun e w' => e = .returned (.bool true) ∧ Below w.heap.size w w' := by
  have H := hid (bare_any hT)
  by_cases h : 200 < p.length
  · have t : decide ((200 : Int) < (p.length : Int)) = true := by simp; omega
    clear hp
    go_enter Tryd.func4, Tryd.ntmps4
    go_wp2_with fail
    refine H.out.mono ?_
    rintro e w1 ⟨rfl, b1⟩
    go_wp2
    go_ret
    exact ⟨rfl, b1⟩
  · have t : decide ((200 : Int) < (p.length : Int)) = false := by simp; omega
    obtain ⟨n, hn⟩ : ∃ n, n = p.length := ⟨_, rfl⟩
    rw [← hn] at h t ⊢
    have HN := hid hn
    have HP := hid hp
    clear hp hn
    go_enter Tryd.func4, Tryd.ntmps4
    go_wp2_with fail
    refine H.out.mono ?_
    rintro e w1 ⟨rfl, b1⟩
    have R1 := hid (reads_any HN.out.symm (HP.out.below b1) (by omega))
    clear H
    go_wp2_with fail
    refine R1.out.mono ?_
    rintro e w2 ⟨rfl, b2⟩
    have B2 := below_then b1 b2
    have al := below_alloc (Below.refl _ w2) (.cells (bytesV [0, 0]).toArray 5)
    have q2 := lits_bsa w2 [0, 0] (by simp)
    have J := hid (join_gave (n1 := 2) (L := [0, 0] ++ p) rfl HN.out.symm rfl q2 (HP.out.below (below_then B2 al)) (by simp; have := HN.out; omega))
    have B2' := below_then B2 al
    clear R1 b1 b2 al q2 B2
    go_wp2_with fail
    refine J.out.mono ?_
    rintro e w3 ⟨A3, c3, rfl, r3, b3⟩
    have B3 := below_then B2' b3
    have R3 := hid (reads_any (n := ([0, 0] ++ p).length) rfl r3.bsa (by simp; have := HN.out; omega))
    clear J r3 b3 B2'
    go_wp2_with fail
    refine R3.out.mono ?_
    rintro e w4 ⟨rfl, b4⟩
    have B4 := below_then B3 b4
    have al := below_alloc (Below.refl _ w4) (.cells (bytesV [0, 1]).toArray 5)
    have q4 := lits_bsa w4 [0, 1] (by simp)
    have J := hid (join_gave (n1 := 2) (L := [0, 1] ++ p) rfl HN.out.symm rfl q4 (HP.out.below (below_then B4 al)) (by simp; have := HN.out; omega))
    have B4' := below_then B4 al
    clear R3 b4 al q4 B4 B3
    go_wp2_with fail
    refine J.out.mono ?_
    rintro e w5 ⟨A5, c5, rfl, r5, b5⟩
    have B5 := below_then B4' b5
    have R5 := hid (reads_any (n := ([0, 1] ++ p).length) rfl r5.bsa (by simp; have := HN.out; omega))
    clear J r5 b5 B4'
    go_wp2_with fail
    refine R5.out.mono ?_
    rintro e w6 ⟨rfl, b6⟩
    have B6 := below_then B5 b6
    clear R5
    go_wp2
    go_ret
    exact ⟨rfl, B6⟩
end Go.Proofs.YtmbgfjcmdolggaaDoor

/- A proof by numbers, opened; the walks of few, of of. -/
namespace Go.Proofs.YtmbgfjcmdolggaaDoor
open Go.RowKit PrintLast Go.ChangeShapes Go.WideShapes Go.Deep Go.Joins

def texts (ps : List Part) : List (List UInt8) := ps.map (·.2.2)
theorem texts_length (ps : List Part) : (texts ps).length = ps.length := by simp [texts]
theorem texts_get {ps : List Part} {k : Nat} (h : k < ps.length) : (texts ps)[k]'(by rw [texts_length]; exact h) = ps[k].2.2 := by simp [texts]
/-- A proof by numbers that came in. -/
def RawAt (w : World) (A : Option Addr) (c : Nat) (ps : List Part) (key : ByteArray) (B : Option Addr) (d : Nat) (row : List UInt8) : Prop :=
  PartsAt w A ps ∧ ps.length ≤ c ∧ c ≤ maxLen ∧ key.size ≤ maxLen ∧ BSA w B d row
theorem RawAt.below {w w' : World} {A B : Option Addr} {c d : Nat} {ps : List Part} {key : ByteArray} {row : List UInt8} (h : RawAt w A c ps key B d row) (hb : Below w.heap.size w w') : RawAt w' A c ps key B d row :=
  ⟨h.1.below hb, h.2.1, h.2.2.1, h.2.2.2.1, h.2.2.2.2.below hb⟩

section
variable {H : Type} {enc : TypeId × Value → H} {w : World} {base : Nat} {spare : Nat → Bool} {held : Bool}
set_option maxRecDepth 100000 in
theorem open_raw {r : Reach} {b0 : Nat} {v : Value} {d : DataW H} {p : List MemPlace} (hv : Value.okWide Tryd.prog w r b0 25 v) (h : DataW.Trod enc Tryd.prog w base spare held 25 v d p) :
    ∃ (A : Option Addr) (c : Nat) (ps : List Part) (kd : UInt8) (key : ByteArray) (B : Option Addr) (dd : Nat) (row : List UInt8), v = .agg #[.slice A ps.length c, .int .u8 (kd.toNat : Int), .string key, .slice B row.length dd] ∧ RawAt w A c ps key B dd row := by
  obtain ⟨v0, v1, v2, v3, y0, y1, y2, y3, n, rfl, _, _, t0, t1, t2, t3⟩ := open_agg4 Tryd.underlying25 (by kernel_rfl) (by kernel_rfl) hv h
  obtain ⟨k1, e1, _, w1⟩ := DataW.trod_int Tryd.underlying5 t1
  obtain ⟨s2, e2, _, w2⟩ := DataW.trod_string Tryd.underlying9 t2
  obtain ⟨row, B, dd, e3, hb⟩ := open_bytes' t3
  have e0 : ∃ A l c, v0 = .slice A l c := by
    rcases open_slice Tryd.underlying22 t0 with ⟨hcs, _⟩ | ⟨ad, l, c, m, n, D, Pl, hcs, _⟩
    · exact ⟨none, 0, 0, by simpa using hcs⟩
    · exact ⟨some ad, l, c, by simpa using hcs⟩
  obtain ⟨A, l, c, rfl⟩ := e0
  obtain ⟨ps, rfl, h1, h2, h3⟩ := open_parts t0
  simp at e1 e2 e3
  subst e1 e2 e3
  refine ⟨A, c, ps, UInt8.ofNat k1.toNat, s2, B, dd, row, ?_, h3, h1, h2, w2, hb⟩
  rw [u8_of_int w1]
end

/-- Has it not too much? -/
def FewB (ps : List Part) (key : ByteArray) (row : List UInt8) : Prop := (∀ x ∈ texts ps, x.length ≤ 20) ∧ ps.length ≤ 20 ∧ key.size ≤ 40 ∧ row.length ≤ 40
instance (ps : List Part) (key : ByteArray) (row : List UInt8) : Decidable (FewB ps key row) := by unfold FewB; infer_instance

set_option maxRecDepth 100000 in
set_option maxHeartbeats 3200000 in
theorem few_any {w : World} {A B : Option Addr} {c d n m : Nat} {ps : List Part} {kd : UInt8} {key : ByteArray} {row : List UInt8} (hn : ps.length = n) (hm : row.length = m) (hr : RawAt w A c ps key B d row) :
    Calls Tryd.prog 12 #[.agg #[.slice A n c, .int .u8 (kd.toNat : Int), .string key, .slice B m d]] w fun e w' => e = .returned (.bool (decide (FewB ps key row))) ∧ Below w.heap.size w w' := by
  have al := below_alloc (Below.refl _ w) (.cells #[.slice A n c, .int .u8 (kd.toNat : Int), .string key, .slice B m d] 25)
  have gb := heap_alloc_new w (.cells #[.slice A n c, .int .u8 (kd.toNat : Int), .string key, .slice B m d] 25)
  have hr' := hr.below al
  obtain ⟨S, hS⟩ : ∃ S, S = w.heap.size := ⟨_, rfl⟩
  rw [← hS] at gb al
  have HS := hid hS
  have hb : n ≤ 9223372036854775807 := by have := hr.2.1; have := hr.2.2.1; unfold maxLen at this; omega
  have hm2 : m ≤ 9223372036854775807 := by have := hr.2.2.2.2.le; omega
  have hk2 : key.size ≤ 9223372036854775807 := by have := hr.2.2.2.1; unfold maxLen at this; omega
  have H1 := hid hr'.1
  have HN := hid (And.intro hn hm)
  clear hr hr' hn hm hS
  go_enter Tryd.func12, Tryd.ntmps12
  go_upto_region 1 with fail
  rw [← HS.out]
  generalize w.alloc (.cells #[.slice A n c, .int .u8 (kd.toNat : Int), .string key, .slice B m d] 25) = W at *
  obtain ⟨v0, v1, v2, v3, -, -, -, -⟩ := four gb
  have E0 : Hid (∀ x ∈ (texts ps).take 0, x.length ≤ 20) := hid (by simp)
  rw [HS.out] at al
  have HA := hid al
  clear gb al
  go_wp2
  go_loopw [3] (fun i wr => ∃ k : Nat, k ≤ n ∧ i = .int .i64 k ∧ Hid (∀ x ∈ (texts ps).take k, x.length ≤ 20) ∧ W = wr) (fun i _ => n - (intOf i).toNat)
  case atStart => exact ⟨0, Nat.zero_le _, rfl, E0, rfl⟩
  case round =>
    clear E0
    obtain ⟨k, hk, rfl, hE, rfl⟩ := hrel
    by_cases hlt : k < n
    · have t1 : decide ((k : Int) < (n : Int)) = true := by simp; omega
      have hk1 : k < ps.length := by rw [HN.out.1]; exact hlt
      obtain ⟨g, o, rfl, c1, q1⟩ := H1.out.at_ k hk1
      have hT1 : k < (texts ps).length := by rw [texts_length]; exact hk1
      have s1 := List.take_succ_eq_append_getElem hT1
      rw [texts_get hk1] at s1
      unfold partV at c1
      have hmem : ps[k].2.2 ∈ texts ps := by rw [← texts_get hk1]; exact List.getElem_mem _
      obtain ⟨⟨Ax, cx, x⟩, hx⟩ : ∃ x : Part, x = ps[k] := ⟨_, rfl⟩
      rw [← hx] at c1 s1 hmem
      by_cases hl : 20 < x.length
      · have t2 : decide ((20 : Int) < (x.length : Int)) = true := by simp; omega
        have hf : Hid (decide (FewB ps key row) = false) := hid (by
          rw [decide_eq_false_iff_not]
          intro e
          have h20 : x.length ≤ 20 := e.1 _ hmem
          omega)
        clear hx q1 s1 hmem hE
        go_wp2
        go_ret
        exact ⟨by rw [hf.out]; rfl, HA.out⟩
      · have t2 : decide ((20 : Int) < (x.length : Int)) = false := by simp; omega
        have hE' : Hid (∀ x ∈ (texts ps).take (k + 1), x.length ≤ 20) := hid (by
          intro z hz
          rw [s1] at hz
          simp only [List.mem_append, List.mem_singleton] at hz
          rcases hz with hz | rfl
          · exact hE.out z hz
          · show z.length ≤ 20; omega)
        clear hx q1 s1 hmem hE
        go_wp2
        go_roundw
        case rel => exact ⟨k + 1, hlt, by go_num, hE', trivial⟩
        case measure => simp [intOf]; omega
    · obtain rfl : k = n := by omega
      have t1 : decide ((k : Int) < (k : Int)) = false := by simp
      have all : Hid (∀ x ∈ texts ps, x.length ≤ 20) := hid (fun z hz => hE.out z (by rwa [List.take_of_length_le (by rw [texts_length]; exact Nat.le_of_eq HN.out.1)]))
      have FIN : Hid (∀ b, (decide (k ≤ 20) && decide (key.size ≤ 40) && decide (m ≤ 40)) = b → decide (FewB ps key row) = b) := hid (by
        intro b h
        have iff : FewB ps key row ↔ (k ≤ 20 ∧ key.size ≤ 40 ∧ m ≤ 40) := by
          unfold FewB
          rw [HN.out.1, HN.out.2]
          exact ⟨fun h => h.2, fun h => ⟨all.out, h⟩⟩
        rw [← h, decide_eq_decide.2 iff, Bool.decide_and, Bool.decide_and, Bool.and_assoc])
      clear hE
      by_cases h1 : k ≤ 20
      · have t2 : decide ((k : Int) ≤ 20) = true := by simp; omega
        by_cases h2 : key.size ≤ 40
        · have t3 : decide ((key.size : Int) ≤ 40) = true := by simp; omega
          by_cases h3 : m ≤ 40
          · have t4 : decide ((m : Int) ≤ 40) = true := by simp; omega
            have F := hid (FIN.out true (by simp [h1, h2, h3]))
            clear h1 h2 h3
            go_wp2
            go_ret
            exact ⟨by rw [F.out]; rfl, HA.out⟩
          · have t4 : decide ((m : Int) ≤ 40) = false := by simp; omega
            have F := hid (FIN.out false (by simp [h3]))
            clear h1 h2 h3
            go_wp2
            go_ret
            exact ⟨by rw [F.out]; rfl, HA.out⟩
        · have t3 : decide ((key.size : Int) ≤ 40) = false := by simp; omega
          have F := hid (FIN.out false (by simp [h2]))
          clear h1 h2
          go_wp2
          go_ret
          exact ⟨by rw [F.out]; rfl, HA.out⟩
      · have t2 : decide ((k : Int) ≤ 20) = false := by simp; omega
        have F := hid (FIN.out false (by simp [h1]))
        clear h1
        go_wp2
        go_ret
        exact ⟨by rw [F.out]; rfl, HA.out⟩

/-- The proof that numbers spell. -/
def ofP (ps : List Part) (kd : UInt8) (key : ByteArray) (row : List UInt8) : Prf :=
  ⟨(texts ps).map dig, kd % 3, if kd % 3 = 2 then key else ⟨#[]⟩, if kd % 3 = 0 then [] else row⟩
theorem kd3 (kd : UInt8) : (kd % 3).toNat = kd.toNat % 3 := by rw [UInt8.toNat_mod]; rfl
theorem ofP_fits {ps : List Part} {kd : UInt8} {key : ByteArray} {row : List UInt8} (h : FewB ps key row) : Fits (ofP ps kd key row) := by
  obtain ⟨h1, h2, h3, h4⟩ := h
  refine ⟨?_, ?_, ?_, ?_, ?_, ?_, ?_⟩
  · intro s hs
    obtain ⟨x, _, rfl⟩ := List.mem_map.1 hs
    exact dig_size x
  · show ((texts ps).map dig).length ≤ 256
    rw [List.length_map, texts_length]; omega
  · show (kd % 3).toNat ≤ 2
    rw [kd3]; omega
  · show (if kd % 3 = 2 then key else (⟨#[]⟩ : ByteArray)).size ≤ 4000
    split
    · omega
    · exact Nat.zero_le _
  · show (if kd % 3 = 0 then [] else row).length ≤ 4000
    split
    · exact Nat.zero_le _
    · omega
  · intro e
    show (if kd % 3 = 2 then key else (⟨#[]⟩ : ByteArray)) = _
    rw [if_neg (show ¬ kd % 3 = 2 from e)]; rfl
  · intro e
    show (if kd % 3 = 0 then [] else row) = _
    rw [if_pos (show kd % 3 = 0 from e)]
theorem fits_holds {p : Prf} (h : Fits p) : Holds p := by
  obtain ⟨h1, h2, h3, h4, h5, _⟩ := h
  exact ⟨by omega, by rw [sidesS_length _ h1]; omega, by omega, by omega⟩
end Go.Proofs.YtmbgfjcmdolggaaDoor

/- The walk of of. -/
namespace Go.Proofs.YtmbgfjcmdolggaaDoor
open Go.RowKit PrintLast

theorem dig_next (ps : List Part) (k : Nat) (h : k < ps.length) : ((texts ps).take (k + 1)).map dig = ((texts ps).take k).map dig ++ [dig ps[k].2.2] := by
  rw [List.take_succ_eq_append_getElem (by rw [texts_length]; exact h), List.map_append, texts_get h]
  rfl

theorem of_end {w X : World} {S b1 j c' m' d' : Nat} {R B' : Option Addr} {P : Prf} (hS : S = w.heap.size) (hb1 : S < b1) (hL : Txt X S R c' P.side) (hn : P.side.length = j) (hj : j ≤ 20) (hm : P.row.length = m') (hB : BSA w B' d' P.row) (hX : Below S w X) {x y z u : Value} (g1 : X.heap[b1]? = some (.cells #[x, y, z, u] 30 (0, 0))) (a b cc d : Value) :
    PrfAt ((((X.setCell ⟨b1, 0, none⟩ a).setCell ⟨b1, 1, none⟩ b).setCell ⟨b1, 2, none⟩ cc).setCell ⟨b1, 3, none⟩ d) R j c' B' m' d' P ∧ Below w.heap.size w ((((X.setCell ⟨b1, 0, none⟩ a).setCell ⟨b1, 1, none⟩ b).setCell ⟨b1, 2, none⟩ cc).setCell ⟨b1, 3, none⟩ d) := by
  have hb := set4_below hX (show S ≤ b1 by omega) a b cc d
  have hl : Txt _ S R c' P.side := own_far hL (set4_keeps X b1 a b cc d) g1 (by decide)
  rw [hS] at hb
  exact ⟨⟨hn, hm, by omega, hl.at_, hB.below hb⟩, hb⟩

set_option maxRecDepth 100000 in
set_option maxHeartbeats 6400000 in
theorem of_any {w : World} {A B : Option Addr} {c d n m : Nat} {ps : List Part} {kd : UInt8} {key : ByteArray} {row : List UInt8} (hn : ps.length = n) (hm : row.length = m) (hr : RawAt w A c ps key B d row) (hf : FewB ps key row) :
    Calls Tryd.prog 13 #[.agg #[.slice A n c, .int .u8 (kd.toNat : Int), .string key, .slice B m d]] w fun e w' => ∃ R c' B' m' d', e = .returned (.agg #[.slice R n c', .int .u8 ((ofP ps kd key row).kind.toNat : Int), .string (ofP ps kd key row).key, .slice B' m' d']) ∧ PrfAt w' R n c' B' m' d' (ofP ps kd key row) ∧ Below w.heap.size w w' := by
  obtain ⟨k3, hk3⟩ : ∃ k3, k3 = kd % 3 := ⟨_, rfl⟩
  have f3 : (kd.toNat : Int) % 3 = (k3.toNat : Int) := by rw [hk3, kd3]; omega
  have k3lt : k3.toNat < 3 := by rw [hk3, kd3]; omega
  obtain ⟨g0, g1, g2, al⟩ := alloc3 w (.cells #[.slice A n c, .int .u8 (kd.toNat : Int), .string key, .slice B m d] 25) (.cells #[.slice none 0 0, .int .u8 0, .string ⟨#[]⟩, .slice none 0 0] 30) (.cells #[.slice none 0 0, .int .u8 (k3.toNat : Int), .string ⟨#[]⟩, .slice none 0 0] 30)
  obtain ⟨S, hS⟩ : ∃ S, S = w.heap.size := ⟨_, rfl⟩
  rw [← hS] at g0 g1 g2 al
  have HS := hid hS
  have hb : n ≤ 20 := by rw [← hn]; exact hf.2.1
  have HR := hid hr
  have HN := hid (And.intro hn hm)
  have HF := hid hf
  have HK := hid hk3
  have kd256 := kd.toNat_lt
  clear hr hn hm hS hf hk3
  go_enter Tryd.func13, Tryd.ntmps13
  go_upto_region 2 with fail
  rw [← HS.out]
  try rw [f3]
  clear f3
  generalize hW : ((w.alloc (.cells #[.slice A n c, .int .u8 (kd.toNat : Int), .string key, .slice B m d] 25)).alloc (.cells #[.slice none 0 0, .int .u8 0, .string ⟨#[]⟩, .slice none 0 0] 30)).alloc (.cells #[.slice none 0 0, .int .u8 (k3.toNat : Int), .string ⟨#[]⟩, .slice none 0 0] 30) = W at *
  obtain ⟨b2, hb2⟩ : ∃ b, b = S + 1 + 1 := ⟨_, rfl⟩
  obtain ⟨b1, hb1⟩ : ∃ b, b = S + 1 := ⟨_, rfl⟩
  rw [← hb2] at g2 ⊢
  rw [← hb1] at g1 ⊢
  have o12 : b1 < b2 := by omega
  have o01 : S < b1 := by omega
  have L0 : Txt W S none 0 (((texts ps).take 0).map dig) := Txt.nil _ _
  obtain ⟨v0, v1, v2, v3, -, -, -, -⟩ := four g0
  clear hW hb1 hb2
  go_wp2
  go_loopw [4] (fun i wr => ∃ (j c' : Nat) (R : Option Addr), j ≤ n ∧ i = .int .i64 j ∧ Txt wr S R c' (((texts ps).take j).map dig) ∧ wr.heap[S]? = some (.cells #[.slice A n c, .int .u8 (kd.toNat : Int), .string key, .slice B m d] 25 (0, 0)) ∧ wr.heap[b1]? = some (.cells #[.slice none 0 0, .int .u8 0, .string ⟨#[]⟩, .slice none 0 0] 30 (0, 0)) ∧ wr.heap[b2]? = some (.cells #[.slice R j c', .int .u8 (k3.toNat : Int), .string ⟨#[]⟩, .slice none 0 0] 30 (0, 0)) ∧ Below S w wr) (fun i _ => n - (intOf i).toNat)
  case atStart => exact ⟨0, 0, none, Nat.zero_le _, rfl, L0, g0, g1, g2, al⟩
  case round =>
    clear L0 g0 g1 g2 al v0 v1 v2 v3
    obtain ⟨j, c', R, hj, rfl, hL, g0, g1, g2, hB⟩ := hrel
    have sB : S ≤ wr.heap.size := by have := lt_of_block g0; omega
    obtain ⟨v0, v1, v2, v3, -, -, -, -⟩ := four g0
    by_cases hlt : j < n
    · have t1 : decide ((j : Int) < (n : Int)) = true := by simp; omega
      have hj1 : j < ps.length := by rw [HN.out.1]; exact hlt
      obtain ⟨g, o, rfl, c1, q1⟩ := (HR.out.1.below (show Below w.heap.size w wr by rw [← HS.out]; exact hB)).at_ j hj1
      unfold partV at c1
      have NX := hid (dig_next ps j hj1)
      have x20 : ps[j].2.2.length ≤ 20 := HF.out.1 _ (by rw [← texts_get hj1]; exact List.getElem_mem _)
      obtain ⟨⟨Ax, cx, x⟩, hx⟩ : ∃ x : Part, x = ps[j] := ⟨_, rfl⟩
      rw [← hx] at c1 q1 NX x20
      obtain ⟨LS, hLS⟩ : ∃ LS, LS = ((texts ps).take j).map dig := ⟨_, rfl⟩
      rw [← hLS] at hL NX
      have LL : Hid (LS.length = j) := hid (by rw [hLS, List.length_map, List.length_take, texts_length, HN.out.1]; omega)
      have x20' : x.length ≤ 20 := x20
      have HSum := hid (rsum_dig rfl (show BSA wr.drew Ax cx x from q1) (by omega))
      have p0 := cell_at g2 (i := 0) (v := .slice R j c') rfl
      have GG := hid (And.intro g0 (And.intro g1 (And.intro g2 (And.intro hB hL))))
      have pk : ((j : Int) < (n : Int)) = True := eq_true (Int.ofNat_lt.2 hlt)
      clear hLS hx q1 g0 g1 g2 hB hL v1 v2 v3 x20
      go_wp2
      refine start_ (n := 12) (S := fun w' => w'.cell? ⟨b2, 0, none⟩ = some (.slice R j c') ∧ w'.cell? ⟨S, 0, none⟩ = some (.slice (some ⟨g, o, none⟩) n c) ∧ w'.cell? ⟨g, o + j, none⟩ = some (.slice Ax x.length cx)) (ds := [9, 11]) #[false, false, false, false, false, false, false, false, false, false, false, false] (by kernel_rfl) rfl rfl ⟨p0, v0, c1⟩ (fun hHeld => ?_)
      refine pure_ (i := 0) (N := some 16) (v := ?_) (a' := ?_) #[true, false, false, false, false, false, false, false, false, false, false, false] rfl rfl (by kernel_rfl) (fun _ _ _ h => h) (Or.inl ⟨by rfl, ?_⟩) ?_ ?_
      rotate_left
      · intro w'
        go_simp
        with_reducible rfl
      rotate_left
      · simp only [Act.put, List.setIfInBounds_toArray, List.set_cons_zero, List.set_cons_succ, i64_w, i32_w]
        rfl
      refine pure_ (i := 2) (N := some 18) (v := ?_) (a' := ?_) #[true, false, true, false, false, false, false, false, false, false, false, false] rfl rfl (by kernel_rfl) (fun _ _ _ h => h) (Or.inl ⟨by rfl, ?_⟩) ?_ ?_
      rotate_left
      · intro w'
        go_simp
        with_reducible rfl
      rotate_left
      · simp only [Act.put, List.setIfInBounds_toArray, List.set_cons_zero, List.set_cons_succ, i64_w, i32_w]
        rfl
      refine pure_ (i := 4) (N := some 20) (v := ?_) (a' := ?_) #[true, false, true, false, true, false, false, false, false, false, false, false] rfl rfl (by kernel_rfl) (fun _ _ _ h => h) (Or.inl ⟨by rfl, ?_⟩) ?_ ?_
      rotate_left
      · intro w'
        go_simp
        with_reducible rfl
      rotate_left
      · simp only [Act.put, List.setIfInBounds_toArray, List.set_cons_zero, List.set_cons_succ, i64_w, i32_w]
        rfl
      refine take_ (i := 1) (N := some 17) (v := ?_) (a' := ?_) #[true, true, true, false, true, false, false, false, false, false, false, false] rfl rfl (by kernel_rfl) (fun _ _ _ h => h) (Or.inl ⟨by rfl, ?_⟩) hHeld ?_ ?_
      rotate_left
      · rintro w' ⟨s0, s1, s2⟩
        go_simp
        with_reducible rfl
      rotate_left
      · simp only [Act.put, List.setIfInBounds_toArray, List.set_cons_zero, List.set_cons_succ, i64_w, i32_w]
        rfl
      refine take_ (i := 3) (N := some 19) (v := ?_) (a' := ?_) #[true, true, true, true, true, false, false, false, false, false, false, false] rfl rfl (by kernel_rfl) (fun _ _ _ h => h) (Or.inl ⟨by rfl, ?_⟩) hHeld ?_ ?_
      rotate_left
      · rintro w' ⟨s0, s1, s2⟩
        go_simp
        with_reducible rfl
      rotate_left
      · simp only [Act.put, List.setIfInBounds_toArray, List.set_cons_zero, List.set_cons_succ, i64_w, i32_w]
        rfl
      refine pure_ (i := 5) (N := some 21) (v := ?_) (a' := ?_) #[true, true, true, true, true, true, false, false, false, false, false, false] rfl rfl (by kernel_rfl) (fun _ _ _ h => h) (Or.inl ⟨by rfl, ?_⟩) ?_ ?_
      rotate_left
      · intro w'
        go_simp
        with_reducible rfl
      rotate_left
      · simp only [Act.put, List.setIfInBounds_toArray, List.set_cons_zero, List.set_cons_succ, i64_w, i32_w]
        rfl
      refine take_ (i := 6) (N := some 22) (v := ?_) (a' := ?_) #[true, true, true, true, true, true, true, false, false, false, false, false] rfl rfl (by kernel_rfl) (fun _ _ _ h => h) (Or.inl ⟨by rfl, ?_⟩) hHeld ?_ ?_
      rotate_left
      · rintro w' ⟨s0, s1, s2⟩
        go_simp
        with_reducible rfl
      rotate_left
      · simp only [Act.put, List.setIfInBounds_toArray, List.set_cons_zero, List.set_cons_succ, i64_w, i32_w]
        rfl
      refine one_ (i := 7) (N := some 23) #[true, true, true, true, true, true, true, true, false, false, false, false] rfl rfl (by kernel_rfl) (by decide) (fun K hK => ?_)
      refine goes_ Tryd.func31 (by kernel_rfl) rfl #[.slice Ax x.length cx] (by rfl) rfl rfl (by simp only [List.map_toArray, List.map_cons, List.map_nil]; rfl) ?_
      with_reducible refine (HSum.out).mono ?_
      rintro e' w1 ⟨rfl, y⟩
      refine ⟨_, rfl, ?_⟩
      have y0 := below_heap y (show wr.drew.heap[S]? = _ from GG.out.1)
      have y1 := below_heap y (show wr.drew.heap[b1]? = _ from GG.out.2.1)
      have y2 := below_heap y (show wr.drew.heap[b2]? = _ from GG.out.2.2.1)
      have yL := (show Txt wr.drew S R c' LS from GG.out.2.2.2.2).below y
      have yB : Below S w w1 := GG.out.2.2.2.1.drew.trans (y.mono sB)
      have ys : S ≤ w1.heap.size := by have := lt_of_block y0; omega
      refine hK.out _ _ ⟨(below_cell y hHeld.1), (below_cell y hHeld.2.1), (below_cell y hHeld.2.2)⟩ (fun hHeld => ?_)
      clear hK K
      refine norm_ (a' := ?_) ?_ ?_
      rotate_left
      · show Act.put _ (some 23) _ = _
        simp only [Act.put, List.setIfInBounds_toArray, List.set_cons_zero, List.set_cons_succ, i64_w, i32_w]
        rfl
      refine one_ (i := 8) (N := some 24) #[true, true, true, true, true, true, true, true, true, false, false, false] rfl rfl (by kernel_rfl) (by decide) (fun K hK => ?_)
      refine value_ (w1 := ?_) (v := ?_) (by rfl) rfl ?_ ?_
      rotate_left 2
      · go_simp
        constructor
        · rfl
        · rfl
      have al0 := below_alloc (Below.refl _ w1) (.cells #[.string (dig x)] 9)
      refine hK.out _ _ ⟨(below_cell al0 hHeld.1), (below_cell al0 hHeld.2.1), (below_cell al0 hHeld.2.2)⟩ (fun hHeld => ?_)
      clear hK K
      refine norm_ (a' := ?_) ?_ ?_
      rotate_left
      · show Act.put _ (some 24) _ = _
        simp only [Act.put, List.setIfInBounds_toArray, List.set_cons_zero, List.set_cons_succ, i64_w, i32_w]
        rfl
      refine last_ (i := 9) (N := some 25) #[true, true, true, true, true, true, true, true, true, true, false, false] rfl rfl (by kernel_rfl) (by decide) (fun K hK => ?_)
      refine step_appT rfl (.tmp 17) (.tmp 24) rfl S (Nat.le_trans ys al0.size) R c' j LS rfl LL.out (yL.below al0) _ (dig x) rfl (cell_at (heap_alloc_new _ _) rfl) (by omega) ?_
      intro R2 c2 w2 m1 m2 m3
      have e2 := (yL.below al0).beside LL.out m2 (below_heap al0 y2) (by decide)
      have e1 := (yL.below al0).beside LL.out m2 (below_heap al0 y1) (by decide)
      have e0 := (yL.below al0).beside LL.out m2 (below_heap al0 y0) (by decide)
      have eB := (yL.below al0).grew LL.out m2 (yB.alloc ys _) (Nat.le_trans ys al0.size)
      have d0 := cell_at e2 (i := 0) (v := .slice R j c') rfl
      have d1 := free_at e2 0
      refine hK.out _ _ ?_
      clear hK K
      refine norm_ (a' := ?_) ?_ ?_
      rotate_left
      · show Act.put _ (some 25) _ = _
        simp only [Act.put, List.setIfInBounds_toArray, List.set_cons_zero, List.set_cons_succ, i64_w, i32_w]
        rfl
      refine pure_ (i := 10) (N := some 26) (v := ?_) (a' := ?_) #[true, true, true, true, true, true, true, true, true, true, true, false] rfl rfl (by kernel_rfl) (fun _ _ _ h => h) (Or.inl ⟨by rfl, ?_⟩) ?_ ?_
      rotate_left
      · intro w'
        go_simp
        with_reducible rfl
      rotate_left
      · simp only [Act.put, List.setIfInBounds_toArray, List.set_cons_zero, List.set_cons_succ, i64_w, i32_w]
        rfl
      refine last_ (i := 11) (N := none) #[true, true, true, true, true, true, true, true, true, true, true, true] rfl rfl (by kernel_rfl) (by decide) (fun K hK => ?_)
      refine skip_ (w1 := ?_) (by rfl) rfl ?_ ?_
      rotate_left
      · go_simp
        rfl
      refine hK.out _ _ ?_
      clear hK K
      refine done_ (by kernel_rfl) ?_
      have e2' : (w2.setCell ⟨b2, 0, none⟩ (.slice R2 (j + 1) c2)).heap[b2]? = some (.cells #[.slice R2 (j + 1) c2, .int .u8 (k3.toNat : Int), .string ⟨#[]⟩, .slice none 0 0] 30 (0, 0)) := by rw [heap_set e2]; rfl
      have e1' := (keeps_one w2 b2 0 (.slice R2 (j + 1) c2)).heap e1 (by omega)
      have e0' := (keeps_one w2 b2 0 (.slice R2 (j + 1) c2)).heap e0 (by omega)
      have eL' := m1.far (keeps_one w2 b2 0 (.slice R2 (j + 1) c2)) e2 (by decide)
      have eB' := eB.setCell (p := ⟨b2, 0, none⟩) (show S ≤ b2 by omega) (.slice R2 (j + 1) c2)
      have NX' := NX.out
      rw [← NX'] at eL'
      clear m1 m2 m3 e2 e1 e0 eB d0 d1 al0 GG NX NX' v0 p0 c1 pk y0 y1 y2 yL yB ys sB HSum y
      generalize w2.setCell ⟨b2, 0, none⟩ (.slice R2 (j + 1) c2) = w3 at *
      go_wp2
      go_roundw
      case rel => exact ⟨j + 1, c2, R2, hlt, by go_num, eL', e0', e1', e2', eB'⟩
      case measure => simp [intOf]; omega
    · obtain rfl : j = n := by omega
      have t1 : decide ((j : Int) < (j : Int)) = false := by simp
      have e1 : (texts ps).take j = texts ps := List.take_of_length_le (by rw [texts_length]; exact Nat.le_of_eq HN.out.1)
      rw [e1] at hL
      have PK : Hid ((ofP ps kd key row).kind = k3) := hid HK.out.symm
      have HB := hid hB
      have rB : BSA w B d row := HR.out.2.2.2.2
      obtain ⟨u0, u1, u2, u3, u0', u1', u2', u3'⟩ := four g1
      obtain ⟨p0, p1, p2, p3, p0', p1', p2', p3'⟩ := four g2
      rcases kind_three (k := k3) (by omega) with hk | hk | hk
      · have t2 : ((k3.toNat : Int) == 2) = false := by rw [hk]; rfl
        have t3 : decide ((0 : Int) < (k3.toNat : Int)) = false := by rw [hk]; rfl
        have t3' : decide (0 < k3.toNat) = false := by rw [hk]; rfl
        have HKK := hid hk
        clear hk
        go_upto_region 10 with fail
        have E := hid (of_end (P := ofP ps kd key row) HS.out o01 hL (by show ((texts ps).map dig).length = j; rw [List.length_map, texts_length, HN.out.1]) hb (by show (if kd % 3 = 0 then [] else row).length = 0; rw [← HK.out, HKK.out]; rfl) (by show BSA w none 0 (if kd % 3 = 0 then [] else row); rw [← HK.out, HKK.out]; exact BSA.nil w) hB g1 (.slice R j c') (.int .u8 (k3.toNat : Int)) (.string ⟨#[]⟩) (.slice none 0 0))
        have G := hid (set4_heap (a := .slice R j c') (b := .int .u8 (k3.toNat : Int)) (c := .string ⟨#[]⟩) (d := .slice none 0 0) g1)
        have KY : Hid ((ofP ps kd key row).key = ⟨#[]⟩) := hid (by show (if kd % 3 = 2 then key else (⟨#[]⟩ : ByteArray)) = _; rw [← HK.out, HKK.out]; rfl)
        clear u0 u1 u2 u3 u0' u1' u2' u3' p0 p1 p2 p3 p0' p1' p2' p3'
        obtain ⟨u0, u1, u2, u3, u0', u1', u2', u3'⟩ := four g1
        obtain ⟨p0, p1, p2, p3, p0', p1', p2', p3'⟩ := four g2
        clear g0 g1 g2 hL hB HB
        go_wp2
        refine bodyPost_ret (ret_cell_one rfl rfl G.out Tryd.underlying30 rfl infPP) rfl ?_
        exact ⟨R, c', none, 0, 0, by rw [PK.out, KY.out], E.out.1, E.out.2⟩
      · have t2 : ((k3.toNat : Int) == 2) = false := by rw [hk]; rfl
        have t3 : decide ((0 : Int) < (k3.toNat : Int)) = true := by rw [hk]; rfl
        have t3' : decide (0 < k3.toNat) = true := by rw [hk]; rfl
        have HKK := hid hk
        clear hk
        have x02 : (wr.setCell ⟨b2, 3, none⟩ (.slice B m d)).heap[b2]? = some (.cells #[.slice R j c', .int .u8 (k3.toNat : Int), .string ⟨#[]⟩, .slice B m d] 30 (0, 0)) := by rw [heap_set g2]; rfl
        have x01 := (keeps_one wr b2 3 (.slice B m d)).heap g1 (by omega)
        have x0L := hL.far (keeps_one wr b2 3 (.slice B m d)) g2 (by decide)
        have x0B := hB.setCell (p := ⟨b2, 3, none⟩) (show S ≤ b2 by omega) (.slice B m d)
        go_upto_region 10 with fail
        generalize (wr.setCell ⟨b2, 3, none⟩ (.slice B m d)) = X at *
        have E := hid (of_end (P := ofP ps kd key row) HS.out o01 x0L (by show ((texts ps).map dig).length = j; rw [List.length_map, texts_length, HN.out.1]) hb (by show (if kd % 3 = 0 then [] else row).length = m; rw [← HK.out, HKK.out]; exact HN.out.2) (by show BSA w B d (if kd % 3 = 0 then [] else row); rw [← HK.out, HKK.out]; exact rB) x0B x01 (.slice R j c') (.int .u8 (k3.toNat : Int)) (.string ⟨#[]⟩) (.slice B m d))
        have G := hid (set4_heap (a := .slice R j c') (b := .int .u8 (k3.toNat : Int)) (c := .string ⟨#[]⟩) (d := .slice B m d) x01)
        have KY : Hid ((ofP ps kd key row).key = ⟨#[]⟩) := hid (by show (if kd % 3 = 2 then key else (⟨#[]⟩ : ByteArray)) = _; rw [← HK.out, HKK.out]; rfl)
        clear u0 u1 u2 u3 u0' u1' u2' u3' p0 p1 p2 p3 p0' p1' p2' p3'
        obtain ⟨u0, u1, u2, u3, u0', u1', u2', u3'⟩ := four x01
        obtain ⟨p0, p1, p2, p3, p0', p1', p2', p3'⟩ := four x02
        clear g0 g1 g2 hL hB HB x02 x01 x0L x0B
        go_wp2
        refine bodyPost_ret (ret_cell_one rfl rfl G.out Tryd.underlying30 rfl infPP) rfl ?_
        exact ⟨R, c', B, m, d, by rw [PK.out, KY.out], E.out.1, E.out.2⟩
      · have t2 : ((k3.toNat : Int) == 2) = true := by rw [hk]; rfl
        have t3 : decide ((0 : Int) < (k3.toNat : Int)) = true := by rw [hk]; rfl
        have t3' : decide (0 < k3.toNat) = true := by rw [hk]; rfl
        have HKK := hid hk
        clear hk
        have x02 : (wr.setCell ⟨b2, 2, none⟩ (.string key)).heap[b2]? = some (.cells #[.slice R j c', .int .u8 (k3.toNat : Int), .string key, .slice none 0 0] 30 (0, 0)) := by rw [heap_set g2]; rfl
        have x01 := (keeps_one wr b2 2 (.string key)).heap g1 (by omega)
        have x0L := hL.far (keeps_one wr b2 2 (.string key)) g2 (by decide)
        have x0B := hB.setCell (p := ⟨b2, 2, none⟩) (show S ≤ b2 by omega) (.string key)
        have x12 : ((wr.setCell ⟨b2, 2, none⟩ (.string key)).setCell ⟨b2, 3, none⟩ (.slice B m d)).heap[b2]? = some (.cells #[.slice R j c', .int .u8 (k3.toNat : Int), .string key, .slice B m d] 30 (0, 0)) := by rw [heap_set x02]; rfl
        have x11 := (keeps_one (wr.setCell ⟨b2, 2, none⟩ (.string key)) b2 3 (.slice B m d)).heap x01 (by omega)
        have x1L := x0L.far (keeps_one (wr.setCell ⟨b2, 2, none⟩ (.string key)) b2 3 (.slice B m d)) x02 (by decide)
        have x1B := x0B.setCell (p := ⟨b2, 3, none⟩) (show S ≤ b2 by omega) (.slice B m d)
        go_upto_region 10 with fail
        generalize ((wr.setCell ⟨b2, 2, none⟩ (.string key)).setCell ⟨b2, 3, none⟩ (.slice B m d)) = X at *
        have E := hid (of_end (P := ofP ps kd key row) HS.out o01 x1L (by show ((texts ps).map dig).length = j; rw [List.length_map, texts_length, HN.out.1]) hb (by show (if kd % 3 = 0 then [] else row).length = m; rw [← HK.out, HKK.out]; exact HN.out.2) (by show BSA w B d (if kd % 3 = 0 then [] else row); rw [← HK.out, HKK.out]; exact rB) x1B x11 (.slice R j c') (.int .u8 (k3.toNat : Int)) (.string key) (.slice B m d))
        have G := hid (set4_heap (a := .slice R j c') (b := .int .u8 (k3.toNat : Int)) (c := .string key) (d := .slice B m d) x11)
        have KY : Hid ((ofP ps kd key row).key = key) := hid (by show (if kd % 3 = 2 then key else (⟨#[]⟩ : ByteArray)) = _; rw [← HK.out, HKK.out]; rfl)
        clear u0 u1 u2 u3 u0' u1' u2' u3' p0 p1 p2 p3 p0' p1' p2' p3'
        obtain ⟨u0, u1, u2, u3, u0', u1', u2', u3'⟩ := four x11
        obtain ⟨p0, p1, p2, p3, p0', p1', p2', p3'⟩ := four x12
        clear g0 g1 g2 hL hB HB x02 x01 x0L x0B x12 x11 x1L x1B
        go_wp2
        refine bodyPost_ret (ret_cell_one rfl rfl G.out Tryd.underlying30 rfl infPP) rfl ?_
        exact ⟨R, c', B, m, d, by rw [PK.out, KY.out], E.out.1, E.out.2⟩
end Go.Proofs.YtmbgfjcmdolggaaDoor

/- ProofBack: a proof is read as it was written. -/
namespace Go.Proofs.YtmbgfjcmdolggaaDoor
open Go.RowKit PrintLast

theorem res_enc {p : Prf} (h : Fits p) : resB (encB p) = (0, p) := by unfold resB; rw [decB_enc p h]
theorem enc_length {p : Prf} (h : Fits p) : 3 ≤ (encB p).length ∧ (encB p).length ≤ 100000 := by
  obtain ⟨h1, h2, h3, h4, h5, h6, h7⟩ := h
  unfold encB endS
  simp only [List.length_append, numBytes_length, sidesS_length _ h1, List.length_cons]
  have e1 : (if p.kind = 2 then textS p.key.data.toList else []).length ≤ 4002 := by
    split
    · rw [textS_length]; have : p.key.data.toList.length = p.key.size := by simp
      omega
    · simp
  have e2 : (if p.kind = 1 ∨ p.kind = 2 then textS p.row else []).length ≤ 4002 := by
    split
    · rw [textS_length]; omega
    · simp
  omega

set_option maxRecDepth 100000 in
set_option maxHeartbeats 12800000 in
theorem back_walk {w : World} (hT : Table w) {A B : Option Addr} {c d : Nat} {ps : List Part} {kd : UInt8} {key : ByteArray} {row : List UInt8} (hr : RawAt w A c ps key B d row) :
    Calls Tryd.prog 3 #[.agg #[.slice A ps.length c, .int .u8 (kd.toNat : Int), .string key, .slice B row.length d]] w fun e w' => e = .returned (.bool true) ∧ Below w.heap.size w w' := by
  obtain ⟨n, hn⟩ : ∃ n, n = ps.length := ⟨_, rfl⟩
  obtain ⟨m, hm⟩ : ∃ m, m = row.length := ⟨_, rfl⟩
  rw [← hn, ← hm]
  have HN := hid (And.intro hn.symm hm.symm)
  have al := below_alloc (Below.refl _ w) (.cells #[.slice A n c, .int .u8 (kd.toNat : Int), .string key, .slice B m d] 25)
  have gb := hid (heap_alloc_new w (.cells #[.slice A n c, .int .u8 (kd.toNat : Int), .string key, .slice B m d] 25))
  have TT := hid (hT.below al)
  have RR := hid (hr.below al)
  have BB := hid al
  obtain ⟨S, hS⟩ : ∃ S, S = w.heap.size := ⟨_, rfl⟩
  have HS := hid hS
  rw [← hS] at gb
  clear hn hm al hT hr hS
  go_enter Tryd.func3, Tryd.ntmps3
  go_upto_region 1 with fail
  rw [← HS.out]
  generalize w.alloc (.cells #[.slice A n c, .int .u8 (kd.toNat : Int), .string key, .slice B m d] 25) = w0 at *
  have HC1 := hid (bare_any TT.out)
  go_wp2_with fail
  refine HC1.out.mono ?_
  rintro e w1 ⟨rfl, b1⟩
  clear HC1
  replace gb := hid (below_heap b1 gb.out)
  replace TT := hid (TT.out.below b1)
  replace RR := hid (RR.out.below b1)
  replace BB := hid (below_then BB.out b1)
  clear b1
  obtain ⟨v0, v1, v2, v3, -, -, -, -⟩ := four gb.out
  have HC2 := hid (few_any (kd := kd) HN.out.1 HN.out.2 RR.out)
  go_wp2_with fail
  refine HC2.out.mono ?_
  rintro e w2 ⟨rfl, b2⟩
  clear HC2 v0 v1 v2 v3
  replace gb := hid (below_heap b2 gb.out)
  replace TT := hid (TT.out.below b2)
  replace RR := hid (RR.out.below b2)
  replace BB := hid (below_then BB.out b2)
  clear b2
  by_cases hf : FewB ps key row
  · have hd : decide (FewB ps key row) = true := by simp [hf]
    rw [hd]
    have HF := hid hf
    have FP := hid (ofP_fits (kd := kd) hf)
    clear hd hf
    obtain ⟨v0, v1, v2, v3, -, -, -, -⟩ := four gb.out
    have HC3 := hid (of_any (kd := kd) HN.out.1 HN.out.2 RR.out HF.out)
    go_wp2_with fail
    refine HC3.out.mono ?_
    rintro e w3 ⟨R, c3, B3, m3, d3, rfl, p3, b3⟩
    clear HC3 v0 v1 v2 v3
    replace gb := hid (below_heap b3 gb.out)
    replace TT := hid (TT.out.below b3)
    replace RR := hid (RR.out.below b3)
    replace BB := hid (below_then BB.out b3)
    clear gb RR
    have PP := hid p3
    clear p3 b3
    obtain ⟨P, hP⟩ : ∃ P, P = ofP ps kd key row := ⟨_, rfl⟩
    rw [← hP] at PP FP ⊢
    clear hP
    obtain ⟨S1, hS1⟩ : ∃ S, S = w3.heap.size := ⟨_, rfl⟩
    have g1 := hid (heap_alloc_new w3 (.cells #[.slice R n c3, .int .u8 (P.kind.toNat : Int), .string P.key, .slice B3 m3 d3] 30))
    have al := below_alloc (Below.refl _ w3) (.cells #[.slice R n c3, .int .u8 (P.kind.toNat : Int), .string P.key, .slice B3 m3 d3] 30)
    rw [← hS1] at g1
    have HS1 := hid hS1
    clear hS1
    replace TT := hid (TT.out.below al)
    replace PP := hid (PP.out.below al)
    replace BB := hid (below_then BB.out al)
    clear al
    go_upto_region 4 with fail
    rw [← HS1.out]
    generalize w3.alloc (.cells #[.slice R n c3, .int .u8 (P.kind.toNat : Int), .string P.key, .slice B3 m3 d3] 30) = w4 at *
    clear HS1
    obtain ⟨v0, v1, v2, v3, -, -, -, -⟩ := four g1.out
    have HC4 := hid (enc_any (c := c3) PP.out.1 PP.out.2.1 PP.out.2.2.2.1 PP.out.2.2.2.2 (fits_holds FP.out))
    go_wp2_with fail
    refine HC4.out.mono ?_
    rintro e w5 ⟨A5, c5, rfl, r5, b5⟩
    clear HC4 v0 v1 v2 v3
    replace TT := hid (TT.out.below b5)
    replace PP := hid (PP.out.below b5)
    replace g1 := hid (below_heap b5 g1.out)
    replace BB := hid (below_then BB.out b5)
    obtain ⟨N, hN⟩ : ∃ N, N = (encB P).length := ⟨_, rfl⟩
    have hN2 : N ≤ 100000 := by rw [hN]; exact (enc_length FP.out).2
    rw [← hN]
    have HQ := hid hN
    have QQ := hid r5
    clear hN r5 b5
    have HC5 := hid (dec_any HQ.out.symm QQ.out.bsa (by omega))
    go_wp2_with fail
    refine HC5.out.mono ?_
    rintro e w6 ⟨A6, c6, B6, d6, rfl, t6, r6, b6⟩
    clear HC5
    replace TT := hid (TT.out.below b6)
    replace PP := hid (PP.out.below b6)
    replace g1 := hid (below_heap b6 g1.out)
    replace QQ := hid (QQ.out.below b6)
    replace BB := hid (below_then BB.out b6)
    rw [res_enc FP.out] at t6 r6 ⊢
    unfold prfV
    rw [show ((0 : Nat), P).2.side.length = n from PP.out.1, show ((0 : Nat), P).2.row.length = m3 from PP.out.2.1]
    have XX : Hid (PrfAt w6 A6 n c6 B6 m3 d6 P) := hid ⟨PP.out.1, PP.out.2.1, PP.out.2.2.1, t6.at_, r6.bsa⟩
    clear t6 r6 b6
    obtain ⟨S2, hS2⟩ : ∃ S, S = w6.heap.size := ⟨_, rfl⟩
    have g2 := hid (heap_alloc_new w6 (.cells #[.slice A6 n c6, .int .u8 (P.kind.toNat : Int), .string P.key, .slice B6 m3 d6] 30))
    have al := below_alloc (Below.refl _ w6) (.cells #[.slice A6 n c6, .int .u8 (P.kind.toNat : Int), .string P.key, .slice B6 m3 d6] 30)
    rw [← hS2] at g2
    have HS2 := hid hS2
    clear hS2
    replace TT := hid (TT.out.below al)
    replace PP := hid (PP.out.below al)
    replace g1 := hid (below_heap al g1.out)
    replace QQ := hid (QQ.out.below al)
    replace XX := hid (XX.out.below al)
    replace BB := hid (below_then BB.out al)
    clear al
    go_upto_region 6 with fail
    rw [← HS2.out]
    show Code.wp _ _ _ _ (w6.alloc (.cells #[.slice A6 n c6, .int .u8 (P.kind.toNat : Int), .string P.key, .slice B6 m3 d6] 30))
    generalize w6.alloc (.cells #[.slice A6 n c6, .int .u8 (P.kind.toNat : Int), .string P.key, .slice B6 m3 d6] 30) = w7 at *
    clear HS2
    have HC6 := hid (rdec_any HQ.out.symm QQ.out.bsa (by omega))
    go_wp2_with fail
    refine HC6.out.mono ?_
    rintro e w8 ⟨A8, c8, B8, d8, rfl, t8, r8, b8⟩
    clear HC6
    replace TT := hid (TT.out.below b8)
    replace PP := hid (PP.out.below b8)
    replace g1 := hid (below_heap b8 g1.out)
    replace QQ := hid (QQ.out.below b8)
    replace XX := hid (XX.out.below b8)
    replace g2 := hid (below_heap b8 g2.out)
    replace BB := hid (below_then BB.out b8)
    rw [res_enc FP.out] at t8 r8 ⊢
    unfold prfV
    rw [show ((0 : Nat), P).2.side.length = n from PP.out.1, show ((0 : Nat), P).2.row.length = m3 from PP.out.2.1]
    have YY : Hid (PrfAt w8 A8 n c8 B8 m3 d8 P) := hid ⟨PP.out.1, PP.out.2.1, PP.out.2.2.1, t8.at_, r8.bsa⟩
    clear t8 r8 b8
    obtain ⟨S3, hS3⟩ : ∃ S, S = w8.heap.size := ⟨_, rfl⟩
    have g3 := hid (heap_alloc_new w8 (.cells #[.slice A8 n c8, .int .u8 (P.kind.toNat : Int), .string P.key, .slice B8 m3 d8] 36))
    have al := below_alloc (Below.refl _ w8) (.cells #[.slice A8 n c8, .int .u8 (P.kind.toNat : Int), .string P.key, .slice B8 m3 d8] 36)
    rw [← hS3] at g3
    have HS3 := hid hS3
    clear hS3
    replace TT := hid (TT.out.below al)
    replace PP := hid (PP.out.below al)
    replace g1 := hid (below_heap al g1.out)
    replace QQ := hid (QQ.out.below al)
    replace XX := hid (XX.out.below al)
    replace g2 := hid (below_heap al g2.out)
    replace YY := hid (YY.out.below al)
    replace BB := hid (below_then BB.out al)
    clear al
    go_upto_region 7 with fail
    rw [← HS3.out]
    show Code.wp _ _ _ _ (w8.alloc (.cells #[.slice A8 n c8, .int .u8 (P.kind.toNat : Int), .string P.key, .slice B8 m3 d8] 36))
    generalize w8.alloc (.cells #[.slice A8 n c8, .int .u8 (P.kind.toNat : Int), .string P.key, .slice B8 m3 d8] 36) = w9 at *
    clear HS3
    obtain ⟨p0, p1, p2, p3, -, -, -, -⟩ := four g1.out
    obtain ⟨x0, x1, x2, x3, -, -, -, -⟩ := four g2.out
    have S0 := psame_any XX.out PP.out
    rw [sameB_self] at S0
    have HS9 := hid S0
    clear S0
    go_wp2_with fail
    refine HS9.out.mono ?_
    rintro e w10 ⟨rfl, b10⟩
    clear HS9 p0 p1 p2 p3 x0 x1 x2 x3
    replace TT := hid (TT.out.below b10)
    replace PP := hid (PP.out.below b10)
    replace g1 := hid (below_heap b10 g1.out)
    replace QQ := hid (QQ.out.below b10)
    replace XX := hid (XX.out.below b10)
    replace g2 := hid (below_heap b10 g2.out)
    replace YY := hid (YY.out.below b10)
    replace g3 := hid (below_heap b10 g3.out)
    replace BB := hid (below_then BB.out b10)
    clear b10
    obtain ⟨x0, x1, x2, x3, -, -, -, -⟩ := four g2.out
    obtain ⟨y0, y1, y2, y3, -, -, -, -⟩ := four g3.out
    have S0 := like_any XX.out YY.out
    rw [sameB_self] at S0
    have HS9 := hid S0
    clear S0
    go_wp2_with fail
    refine HS9.out.mono ?_
    rintro e w11 ⟨rfl, b11⟩
    clear HS9 x0 x1 x2 x3 y0 y1 y2 y3
    replace TT := hid (TT.out.below b11)
    replace PP := hid (PP.out.below b11)
    replace g1 := hid (below_heap b11 g1.out)
    replace QQ := hid (QQ.out.below b11)
    replace XX := hid (XX.out.below b11)
    replace g2 := hid (below_heap b11 g2.out)
    replace YY := hid (YY.out.below b11)
    replace g3 := hid (below_heap b11 g3.out)
    replace BB := hid (below_then BB.out b11)
    clear b11
    obtain ⟨y0, y1, y2, y3, -, -, -, -⟩ := four g3.out
    have HC7 := hid (renc_any (c := c8) YY.out.1 YY.out.2.1 YY.out.2.2.2.1 YY.out.2.2.2.2 (fits_holds FP.out))
    go_wp2_with fail
    refine HC7.out.mono ?_
    rintro e w12 ⟨A12, c12, rfl, r12, b12⟩
    clear HC7 y0 y1 y2 y3
    replace TT := hid (TT.out.below b12)
    replace PP := hid (PP.out.below b12)
    replace g1 := hid (below_heap b12 g1.out)
    replace QQ := hid (QQ.out.below b12)
    replace XX := hid (XX.out.below b12)
    replace g2 := hid (below_heap b12 g2.out)
    replace YY := hid (YY.out.below b12)
    replace g3 := hid (below_heap b12 g3.out)
    replace BB := hid (below_then BB.out b12)
    rw [← HQ.out]
    have B0 := bytes_n HQ.out.symm HQ.out.symm QQ.out.bsa r12.bsa
    rw [show decide (encB P = encB P) = true by simp] at B0
    have HB0 := hid B0
    clear B0 r12 b12
    go_wp2_with fail
    refine HB0.out.mono ?_
    rintro e w13 ⟨rfl, b13⟩
    replace TT := hid (TT.out.below b13)
    replace PP := hid (PP.out.below b13)
    replace g1 := hid (below_heap b13 g1.out)
    replace QQ := hid (QQ.out.below b13)
    replace XX := hid (XX.out.below b13)
    replace g2 := hid (below_heap b13 g2.out)
    replace YY := hid (YY.out.below b13)
    replace g3 := hid (below_heap b13 g3.out)
    replace BB := hid (below_then BB.out b13)
    clear b13 HB0
    go_wp2
    go_ret
    exact ⟨rfl, BB.out⟩
  · have hd : decide (FewB ps key row) = false := by simp [hf]
    rw [hd]
    clear hd hf
    have HC8 := hid (bare_any TT.out)
    go_wp2_with fail
    refine HC8.out.mono ?_
    rintro e w3 ⟨rfl, b3⟩
    clear HC8
    replace BB := hid (below_then BB.out b3)
    go_wp2
    go_ret
    exact ⟨rfl, BB.out⟩
end Go.Proofs.YtmbgfjcmdolggaaDoor

/- ProofTurned: a proof's bytes in which one is another one, that are cut, or go on. -/
namespace Go.Proofs.YtmbgfjcmdolggaaDoor
open Go.RowKit PrintLast

theorem reads_n {w : World} {A : Option Addr} {c n : Nat} {q : List UInt8} (hn : q.length = n) (hq : BSA w A c q) (hb : n ≤ 1000000) :
    Calls Tryd.prog 21 #[.slice A n c] w fun e w' => e = .returned (.bool true) ∧ Below w.heap.size w w' := reads_any hn hq hb
set_option maxRecDepth 100000 in
set_option maxHeartbeats 12800000 in
theorem turned_walk {w : World} (hT : Table w) {A B M : Option Addr} {c d mc : Nat} {ps : List Part} {kd : UInt8} {key : ByteArray} {row more : List UInt8} {at' turn : Int} {cut : Bool} (hr : RawAt w A c ps key B d row) (ha : (Lit.int .u16 at').wf = true) (ht : (Lit.int .u8 turn).wf = true) (hM : BSA w M mc more) :
    Calls Tryd.prog 5 #[.agg #[.slice A ps.length c, .int .u8 (kd.toNat : Int), .string key, .slice B row.length d], .int .u16 at', .int .u8 turn, .bool cut, .slice M more.length mc] w fun e w' => e = .returned (.bool true) ∧ Below w.heap.size w w' := by
  obtain ⟨u, rfl⟩ : ∃ b8 : UInt8, turn = (b8.toNat : Int) := ⟨UInt8.ofNat turn.toNat, (u8_of_int ht).symm⟩
  have ha' := bounds_u16 ha
  obtain ⟨at', rfl⟩ : ∃ N : Nat, at' = (N : Int) := ⟨at'.toNat, by omega⟩
  have hat : at' < 65536 := by omega
  obtain ⟨n, hn⟩ : ∃ n, n = ps.length := ⟨_, rfl⟩
  obtain ⟨m, hm⟩ : ∃ m, m = row.length := ⟨_, rfl⟩
  obtain ⟨L, hL⟩ : ∃ L, L = more.length := ⟨_, rfl⟩
  rw [← hn, ← hm, ← hL]
  have hL2 : L ≤ 9223372036854775807 := by rw [hL]; exact hM.le
  have HN := hid (And.intro hn.symm hm.symm)
  have HL := hid hL
  have al := below_alloc (Below.refl _ w) (.cells #[.slice A n c, .int .u8 (kd.toNat : Int), .string key, .slice B m d] 25)
  have gb := hid (heap_alloc_new w (.cells #[.slice A n c, .int .u8 (kd.toNat : Int), .string key, .slice B m d] 25))
  have TT := hid (hT.below al)
  have RR := hid (hr.below al)
  have MM := hid (hM.below al)
  have BB := hid al
  obtain ⟨S, hS⟩ : ∃ S, S = w.heap.size := ⟨_, rfl⟩
  have HS := hid hS
  rw [← hS] at gb
  clear hn hm hL al hT hr hM hS ha ht ha'
  go_enter Tryd.func5, Tryd.ntmps5
  go_upto_region 1 with fail
  rw [← HS.out]
  generalize w.alloc (.cells #[.slice A n c, .int .u8 (kd.toNat : Int), .string key, .slice B m d] 25) = w0 at *
  have HC1 := hid (bare_any TT.out)
  go_wp2_with fail
  refine HC1.out.mono ?_
  rintro e w1 ⟨rfl, b1⟩
  clear HC1
  replace gb := hid (below_heap b1 gb.out)
  replace TT := hid (TT.out.below b1)
  replace RR := hid (RR.out.below b1)
  replace MM := hid (MM.out.below b1)
  replace BB := hid (below_then BB.out b1)
  clear b1
  obtain ⟨v0, v1, v2, v3, -, -, -, -⟩ := four gb.out
  have HC2 := hid (few_any (kd := kd) HN.out.1 HN.out.2 RR.out)
  go_wp2_with fail
  refine HC2.out.mono ?_
  rintro e w2 ⟨rfl, b2⟩
  clear HC2 v0 v1 v2 v3
  replace gb := hid (below_heap b2 gb.out)
  replace TT := hid (TT.out.below b2)
  replace RR := hid (RR.out.below b2)
  replace MM := hid (MM.out.below b2)
  replace BB := hid (below_then BB.out b2)
  clear b2
  by_cases hf : FewB ps key row
  · have hd : decide (FewB ps key row) = true := by simp [hf]
    rw [hd]
    have HF := hid hf
    have FP := hid (ofP_fits (kd := kd) hf)
    clear hd hf
    by_cases hl10 : 10 < L
    · have t1 : decide ((10 : Int) < (L : Int)) = true := by simp; omega
      have HC1 := hid (bare_any TT.out)
      go_wp2_with fail
      refine HC1.out.mono ?_
      rintro e w3 ⟨rfl, b3⟩
      clear HC1
      replace BB := hid (below_then BB.out b3)
      go_wp2
      go_ret
      exact ⟨rfl, BB.out⟩
    · have t1 : decide ((10 : Int) < (L : Int)) = false := by simp; omega
      obtain ⟨v0, v1, v2, v3, -, -, -, -⟩ := four gb.out
      have HC3 := hid (of_any (kd := kd) HN.out.1 HN.out.2 RR.out HF.out)
      go_wp2_with fail
      refine HC3.out.mono ?_
      rintro e w3 ⟨R, c3, B3, m3, d3, rfl, p3, b3⟩
      clear HC3 v0 v1 v2 v3
      replace gb := hid (below_heap b3 gb.out)
      replace TT := hid (TT.out.below b3)
      replace RR := hid (RR.out.below b3)
      replace MM := hid (MM.out.below b3)
      replace BB := hid (below_then BB.out b3)
      clear gb RR
      have PP := hid p3
      clear p3 b3
      obtain ⟨P, hP⟩ : ∃ P, P = ofP ps kd key row := ⟨_, rfl⟩
      rw [← hP] at PP FP ⊢
      clear hP
      have HC4 := hid (enc_any (c := c3) PP.out.1 PP.out.2.1 PP.out.2.2.2.1 PP.out.2.2.2.2 (fits_holds FP.out))
      go_wp2_with fail
      refine HC4.out.mono ?_
      rintro e w5 ⟨A5, c5, rfl, r5, b5⟩
      clear HC4
      replace TT := hid (TT.out.below b5)
      replace MM := hid (MM.out.below b5)
      replace PP := hid (PP.out.below b5)
      replace BB := hid (below_then BB.out b5)
      clear PP
      have eN := enc_length FP.out
      obtain ⟨Q, hQ⟩ : ∃ Q, Q = encB P ++ more := ⟨_, rfl⟩
      obtain ⟨N, hN⟩ : ∃ N, N = Q.length := ⟨_, rfl⟩
      have hN3 : 3 ≤ N := by rw [hN, hQ, List.length_append]; omega
      have hN2 : N ≤ 100010 := by rw [hN, hQ, List.length_append, ← HL.out]; omega
      have HQ := hid hN
      have J0 := hid (join_gave rfl HL.out.symm hQ.symm r5.bsa MM.out (by rw [← hN]; omega))
      clear r5 b5 hQ hN eN FP
      go_wp2_with fail
      refine J0.out.mono ?_
      rintro e w6 ⟨A6, c6, rfl, r6, b6⟩
      have BL : Hid (w.heap.size ≤ w5.heap.size) := hid BB.out.size
      clear J0
      clear MM
      replace TT := hid (TT.out.below b6)
      replace BB := hid (below_then BB.out b6)
      rw [← HQ.out]
      obtain ⟨g6, rfl⟩ := r6.place (by rw [← HQ.out]; omega)
      obtain ⟨cur, hg6, hcur, hbase⟩ := r6.heap
      have hc1 : N ≤ c6 := by rw [HQ.out]; exact r6.bsa.1
      have hc2 := r6.bsa.2.1
      unfold maxLen at hc2
      have t2 : ((N : Int) == 0) = false := by rw [beq_eq_false_iff_ne]; omega
      obtain ⟨k, hk⟩ : ∃ k, k = at' % N := ⟨_, rfl⟩
      have hkN : k < N := by rw [hk]; exact Nat.mod_lt _ (by omega)
      have e1 : (at' : Int) % (N : Int) = (k : Int) := by rw [hk]; rfl
      clear hk b6
      cases cut with
      | true =>
        have lk : (Q.take k).length = k := by rw [List.length_take, ← HQ.out]; omega
        have RD := hid (reads_n lk (r6.bsa.head k) (by omega))
        clear r6 hg6 hcur hbase lk
        go_wp2_with fail
        refine RD.out.mono ?_
        rintro e w7 ⟨rfl, b7⟩
        clear RD
        replace BB := hid (below_then BB.out b7)
        go_wp2
        go_ret
        exact ⟨rfl, BB.out⟩
      | false =>
        have ck := (r6.bsa.2.2.2 _ rfl k (by rw [← HQ.out]; exact hkN))
        rw [add_plain] at ck
        have fk := free_at hg6 k
        have R7 := r6.set k u
        have lk : (Q.set k u).length = N := by rw [List.length_set, HQ.out]
        have B7 : Below w.heap.size w (w6.setCell ⟨g6, k, none⟩ (.int .u8 (u.toNat : Int))) := BB.out.setCell (p := ⟨g6, k, none⟩) (show w.heap.size ≤ g6 by have := BL.out; omega) _
        have RD := hid (reads_n lk R7.bsa (by omega))
        have HB7 := hid B7
        clear r6 hg6 hcur hbase lk R7 B7
        have hkc : k < c6 := by omega
        go_wp2_with fail
        refine RD.out.mono ?_
        rintro e w7 ⟨rfl, b7⟩
        clear RD
        replace BB := hid (below_then HB7.out b7)
        go_wp2
        go_ret
        exact ⟨rfl, BB.out⟩
  · have hd : decide (FewB ps key row) = false := by simp [hf]
    rw [hd]
    clear hd hf
    have HC1 := hid (bare_any TT.out)
    go_wp2_with fail
    refine HC1.out.mono ?_
    rintro e w3 ⟨rfl, b3⟩
    clear HC1
    replace BB := hid (below_then BB.out b3)
    go_wp2
    go_ret
    exact ⟨rfl, BB.out⟩
end Go.Proofs.YtmbgfjcmdolggaaDoor

/- ProofMany: as many sides as may be, and one more; as long texts, and longer ones. -/
namespace Go.Proofs.YtmbgfjcmdolggaaDoor
open Go.RowKit PrintLast

def zs32 : ByteArray := strB (List.replicate 32 0)
theorem zs32_size : zs32.size = 32 := by unfold zs32; rw [strB_size]; rfl
def manyP (n k : Nat) : Prf := ⟨List.replicate n zs32, 1, ⟨#[]⟩, List.replicate k 0⟩
theorem many_holds {n k : Nat} (hn : n < 300) (hk : k < 5000) : Holds (manyP n k) := by
  have h : ∀ s ∈ List.replicate n zs32, s.size = 32 := fun s hs => by rw [List.eq_of_mem_replicate hs]; exact zs32_size
  refine ⟨?_, ?_, ?_, ?_⟩
  · show (List.replicate n zs32).length ≤ _; rw [List.length_replicate]; omega
  · show (sidesS (List.replicate n zs32)).length ≤ _; rw [sidesS_length _ h, List.length_replicate]; omega
  · exact Nat.zero_le _
  · show (List.replicate k (0 : UInt8)).length ≤ _; rw [List.length_replicate]; omega
theorem many_length {n k : Nat} (hn : n < 300) (hk : k < 5000) : (encB (manyP n k)).length ≤ 100000 := by
  have h : ∀ s ∈ List.replicate n zs32, s.size = 32 := fun s hs => by rw [List.eq_of_mem_replicate hs]; exact zs32_size
  have e : encB (manyP n k) = numBytes n 2 ++ sidesS (List.replicate n zs32) ++ 1 :: textS (List.replicate k 0) := by
    unfold encB endS manyP
    simp
  rw [e]
  simp only [List.length_append, numBytes_length, sidesS_length _ h, List.length_cons, textS_length, List.length_replicate]
  omega
theorem many_res {n k : Nat} (hn : n < 300) (hk : k < 5000) : resB (encB (manyP n k)) = if 256 < n ∨ 4000 < k then (2, ⟨[], 0, ⟨#[]⟩, []⟩) else (0, manyP n k) := by
  have h : ∀ s ∈ List.replicate n zs32, s.size = 32 := fun s hs => by rw [List.eq_of_mem_replicate hs]; exact zs32_size
  unfold resB manyP
  have := decB_many (List.replicate n zs32) (List.replicate k 0) h (by rw [List.length_replicate]; omega) (by rw [List.length_replicate]; omega)
  rw [List.length_replicate, List.length_replicate] at this
  rw [show (⟨#[]⟩ : ByteArray) = ByteArray.empty from rfl, this]
  by_cases hc : 256 < n ∨ 4000 < k
  · rw [if_pos hc, if_pos hc]
  · rw [if_neg hc, if_neg hc]
theorem heap_alloc2_old_ (w : World) (o1 o2 : Obj) : ((w.alloc o1).alloc o2).heap[w.heap.size]? = some o1 := (alloc2 w o1 o2).1
theorem bsa_same {w w' : World} {g c : Nat} {l : List UInt8} (h : BSA w (some ⟨g, 0, none⟩) c l) (hh : w'.heap[g]? = w.heap[g]?) : BSA w' (some ⟨g, 0, none⟩) c l :=
  h.moved fun ad v hv ⟨a0, j, e, ha⟩ => (World.cell?_of_block (by cases e; rw [ha, addr_add_block]; exact hh)).trans hv
theorem repl_next (n : Nat) : List.replicate (n + 1) zs32 = List.replicate n zs32 ++ [zs32] := List.replicate_succ'

set_option maxRecDepth 100000 in
set_option maxHeartbeats 12800000 in
theorem many_walk {w : World} (hT : Table w) {n' k' : Int} (hn : (Lit.int .u16 n').wf = true) (hk : (Lit.int .u16 k').wf = true) :
    Calls Tryd.prog 6 #[.int .u16 n', .int .u16 k'] w fun e w' => e = .returned (.bool true) ∧ Below w.heap.size w w' := by
  have hn' := bounds_u16 hn
  have hk' := bounds_u16 hk
  obtain ⟨n', rfl⟩ : ∃ N : Nat, n' = (N : Int) := ⟨n'.toNat, by omega⟩
  obtain ⟨k', rfl⟩ : ∃ N : Nat, k' = (N : Int) := ⟨k'.toNat, by omega⟩
  have hn2 : n' < 65536 := by omega
  have hk2 : k' < 65536 := by omega
  obtain ⟨n, hnn⟩ : ∃ n, n = n' % 270 := ⟨_, rfl⟩
  obtain ⟨k, hkk⟩ : ∃ k, k = k' % 4100 := ⟨_, rfl⟩
  have fn : (n' : Int) % 270 = (n : Int) := by omega
  have fk : (k' : Int) % 4100 = (k : Int) := by omega
  have n270 : n < 270 := by omega
  have k4100 : k < 4100 := by omega
  have mk := fun (w : World) => run_make_row' (P := Tryd.prog) 23 5 (.int .u8 0) 1 Tryd.underlying23 infU8 rfl .i64 .i64 k (by omega) (by omega) w
  have MK := hid mk
  have TT := hid hT
  clear hn hk hn' hk' hnn hkk hT mk
  go_enter Tryd.func6, Tryd.ntmps6
  have HB := hid (bare_any TT.out)
  go_wp2_with fail
  refine HB.out.mono ?_
  rintro e w1 ⟨rfl, b1⟩
  have BB := hid b1
  have BB1 := hid b1.size
  replace TT := hid (TT.out.below b1)
  obtain ⟨S, hS⟩ : ∃ S, S = w1.heap.size := ⟨_, rfl⟩
  have r0 := noughts_row w1 (Nat.le_refl _) (n := k) (by unfold maxLen; omega)
  have al0 := below_alloc (Below.refl _ w1) (.cells (madeCells #[.int .u8 0] k) 5)
  have mk := MK.out w1
  clear b1 HB
  go_upto_region 4 with fail
  rw [← hS]
  have g0 := heap_alloc2_old_ w1 (.cells (madeCells #[.int .u8 0] k) 5) (.cells #[.slice none 0 0, .int .u8 1, .string ⟨#[]⟩, .slice (some ⟨S, 0, none⟩) k k] 36)
  have g1 := (alloc2 w1 (.cells (madeCells #[.int .u8 0] k) 5) (.cells #[.slice none 0 0, .int .u8 1, .string ⟨#[]⟩, .slice (some ⟨S, 0, none⟩) k k] 36)).2.1
  have al := (alloc2 w1 (.cells (madeCells #[.int .u8 0] k) 5) (.cells #[.slice none 0 0, .int .u8 1, .string ⟨#[]⟩, .slice (some ⟨S, 0, none⟩) k k] 36)).2.2
  have z0 := (noughts_bsa (Below.refl _ w1) (n := k) (by unfold maxLen; omega)).below (below_alloc (Below.refl _ _) (.cells #[.slice none 0 0, .int .u8 1, .string ⟨#[]⟩, .slice (some ⟨S, 0, none⟩) k k] 36))
  rw [← hS] at g0 g1 z0
  replace BB := hid (below_then BB.out al)
  replace TT := hid (TT.out.below al)
  have HS := hid hS
  clear r0 al0 mk al hS
  generalize (w1.alloc (.cells (madeCells #[.int .u8 0] k) 5)).alloc (.cells #[.slice none 0 0, .int .u8 1, .string ⟨#[]⟩, .slice (some ⟨S, 0, none⟩) k k] 36) = W at *
  obtain ⟨S1, hS1⟩ : ∃ S1, S1 = S + 1 := ⟨_, rfl⟩
  rw [← hS1] at g1 ⊢
  have o01 : S < S1 := by omega
  have HZ := hid z0
  have L0 : Txt W S none 0 (List.replicate 0 zs32) := Txt.nil _ _
  have hg0 := hid g0
  have B0 := Below.refl S W
  clear hS1 z0
  go_wp2
  go_loopw [6] (fun i wr => ∃ (j c' : Nat) (R : Option Addr), j ≤ n ∧ i = .int .i64 j ∧ Txt wr S R c' (List.replicate j zs32) ∧ wr.heap[S]? = some (.cells (madeCells #[.int .u8 0] k) 5 (0, 0)) ∧ wr.heap[S1]? = some (.cells #[.slice R j c', .int .u8 1, .string ⟨#[]⟩, .slice (some ⟨S, 0, none⟩) k k] 36 (0, 0)) ∧ Below S W wr) (fun i _ => n - (intOf i).toNat)
  case atStart => exact ⟨0, 0, none, Nat.zero_le _, rfl, L0, g0, g1, B0⟩
  case round =>
    clear L0 g0 g1 B0
    obtain ⟨j, c', R, hj, rfl, hL, g0, g1, hB⟩ := hrel
    have sB : S ≤ wr.heap.size := by have := lt_of_block g0; omega
    by_cases hlt : j < n
    · have t1 : decide ((j : Int) < (n : Int)) = true := by simp; omega
      obtain ⟨LS, hLS⟩ : ∃ LS, LS = List.replicate j zs32 := ⟨_, rfl⟩
      rw [← hLS] at hL
      have LL : Hid (LS.length = j) := hid (by rw [hLS, List.length_replicate])
      have NX : Hid (LS ++ [zs32] = List.replicate (j + 1) zs32) := hid (by rw [hLS, repl_next])
      have p0 := cell_at g1 (i := 0) (v := .slice R j c') rfl
      have GG := hid (And.intro g0 (And.intro g1 (And.intro hB hL)))
      have mk32 : ∀ w : World, (Instr.makeSlice 23 (.int .i64 32) (.int .i64 32)).run Tryd.prog w = .ok (.slice (some ⟨w.heap.size, 0, none⟩) 32 32) (w.alloc (.cells (madeCells #[.int .u8 0] 32) 5)) := fun w => run_make_row' (P := Tryd.prog) 23 5 (.int .u8 0) 1 Tryd.underlying23 infU8 rfl .i64 .i64 32 (by omega) (by omega) w
      have MZ : Hid (BSA (wr.alloc (.cells (madeCells #[.int .u8 0] 32) 5)).drew (some ⟨wr.heap.size, 0, none⟩) 32 (List.replicate 32 0)) := hid (noughts_bsa (Below.refl _ wr.drew) (n := 32) (by unfold maxLen; omega))
      have mal : Below wr.drew.heap.size wr.drew (wr.alloc (.cells (madeCells #[.int .u8 0] 32) 5)).drew := below_alloc (Below.refl _ wr.drew) (.cells (madeCells #[.int .u8 0] 32) 5)
      obtain ⟨ZZ, hZZ⟩ : ∃ Z, Z = madeCells #[.int .u8 0] 32 := ⟨_, rfl⟩
      rw [← hZZ] at mk32 MZ mal
      obtain ⟨z32, hz32⟩ : ∃ z, z = List.replicate 32 (0 : UInt8) := ⟨_, rfl⟩
      have NX0 := NX.out
      rw [← hz32] at MZ
      have zl : z32.length = 32 := by rw [hz32]; exact List.length_replicate
      have HZ32 : Hid (strB z32 = zs32) := hid (by rw [hz32]; rfl)
      have ZL := hid zl
      clear hLS g0 g1 hB hL hZZ zl hz32 NX0
      go_wp2
      refine start_ (n := 8) (S := fun w' => w'.cell? ⟨S1, 0, none⟩ = some (.slice R j c')) (ds := [7]) #[false, false, false, false, false, false, false, false] (by kernel_rfl) rfl rfl (p0) (fun hHeld => ?_)
      refine pure_ (i := 0) (N := some 24) (v := ?_) (a' := ?_) #[true, false, false, false, false, false, false, false] rfl rfl (by kernel_rfl) (fun _ _ _ h => h) (Or.inl ⟨by rfl, ?_⟩) ?_ ?_
      rotate_left
      · intro w'
        go_simp
        with_reducible rfl
      rotate_left
      · simp only [Act.put, List.setIfInBounds_toArray, List.set_cons_zero, List.set_cons_succ, i64_w, i32_w]
        rfl
      refine take_ (i := 1) (N := some 25) (v := ?_) (a' := ?_) #[true, true, false, false, false, false, false, false] rfl rfl (by kernel_rfl) (fun _ _ _ h => h) (Or.inl ⟨by rfl, ?_⟩) hHeld ?_ ?_
      rotate_left
      · intro w' s0
        go_simp
        with_reducible rfl
      rotate_left
      · simp only [Act.put, List.setIfInBounds_toArray, List.set_cons_zero, List.set_cons_succ, i64_w, i32_w]
        rfl
      refine one_ (i := 2) (N := some 26) #[true, true, true, false, false, false, false, false] rfl rfl (by kernel_rfl) (by decide) (fun K hK => ?_)
      refine value_ (w1 := ?_) (v := ?_) (by rfl) rfl ?_ ?_
      rotate_left 2
      · go_simp
        constructor
        · rfl
        · rfl
      refine hK.out _ _ ((below_cell mal hHeld)) (fun hHeld => ?_)
      clear hK K
      refine norm_ (a' := ?_) ?_ ?_
      rotate_left
      · show Act.put _ (some 26) _ = _
        simp only [Act.put, List.setIfInBounds_toArray, List.set_cons_zero, List.set_cons_succ, i64_w, i32_w]
        rfl
      refine one_ (i := 3) (N := some 27) #[true, true, true, true, false, false, false, false] rfl rfl (by kernel_rfl) (by decide) (fun K hK => ?_)
      have cv := conv_any ZL.out MZ.out
      refine value_ (w1 := ?_) (v := ?_) (by rfl) rfl ?_ ?_
      rotate_left 2
      · go_simp
        constructor
        · rfl
        · rfl
      refine hK.out _ _ (hHeld) (fun hHeld => ?_)
      clear hK K
      refine norm_ (a' := ?_) ?_ ?_
      rotate_left
      · show Act.put _ (some 27) _ = _
        simp only [Act.put, List.setIfInBounds_toArray, List.set_cons_zero, List.set_cons_succ, i64_w, i32_w]
        rfl
      refine one_ (i := 4) (N := some 28) #[true, true, true, true, true, false, false, false] rfl rfl (by kernel_rfl) (by decide) (fun K hK => ?_)
      refine value_ (w1 := ?_) (v := ?_) (by rfl) rfl ?_ ?_
      rotate_left 2
      · go_simp
        constructor
        · rfl
        · rfl
      have al0 : Below (wr.alloc (.cells ZZ 5)).drew.heap.size (wr.alloc (.cells ZZ 5)).drew ((wr.alloc (.cells ZZ 5)).alloc (.cells #[.string (strB z32)] 9)).drew := below_alloc (Below.refl _ (wr.alloc (.cells ZZ 5)).drew) (.cells #[.string (strB z32)] 9)
      have hs1 : (wr.alloc (.cells ZZ 5)).drew.heap.size = wr.heap.size + 1 := by show (wr.alloc (.cells ZZ 5)).heap.size = _; simp
      have cS0 := cell_at (i := 0) (v := .string (strB z32)) (heap_alloc_new (wr.alloc (.cells ZZ 5)).drew (.cells #[.string (strB z32)] 9)) rfl
      rw [hs1] at cS0
      have cS : ((wr.alloc (.cells ZZ 5)).alloc (.cells #[.string (strB z32)] 9)).drew.cell? ⟨wr.heap.size + 1, 0, none⟩ = some (.string (strB z32)) := cS0
      clear cS0 hs1
      have alS := mal.size
      have y0 := below_heap mal (show wr.drew.heap[S]? = _ from GG.out.1)
      have y1 := below_heap mal (show wr.drew.heap[S1]? = _ from GG.out.2.1)
      have yL := (show Txt wr.drew S R c' LS from GG.out.2.2.2).below mal
      have yB : Below S W (wr.alloc (.cells ZZ 5)).drew := GG.out.2.2.1.drew.alloc sB (.cells ZZ 5)
      have ys : S ≤ (wr.alloc (.cells ZZ 5)).drew.heap.size := Nat.le_trans sB alS
      refine hK.out _ _ ((below_cell al0 hHeld)) (fun hHeld => ?_)
      clear hK K
      refine norm_ (a' := ?_) ?_ ?_
      rotate_left
      · show Act.put _ (some 28) _ = _
        simp only [Act.put, List.setIfInBounds_toArray, List.set_cons_zero, List.set_cons_succ, i64_w, i32_w]
        rfl
      refine one_ (i := 5) (N := some 29) #[true, true, true, true, true, true, false, false] rfl rfl (by kernel_rfl) (by decide) (fun K hK => ?_)
      refine step_appT rfl (.tmp 25) (.tmp 28) rfl S (Nat.le_trans ys al0.size) R c' j LS rfl LL.out (yL.below al0) _ (strB z32) rfl cS (by omega) ?_
      intro R2 c2 w2 m1 m2 m3
      have e1 := (yL.below al0).beside LL.out m2 (below_heap al0 y1) (by decide)
      have e0 := (yL.below al0).beside LL.out m2 (below_heap al0 y0) (by decide)
      have eB := (yL.below al0).grew LL.out m2 (yB.alloc ys _) (Nat.le_trans ys al0.size)
      have d0 := cell_at e1 (i := 0) (v := .slice R j c') rfl
      have d1 := free_at e1 0
      refine hK.out _ _ (d0) (fun hHeld => ?_)
      clear hK K
      refine norm_ (a' := ?_) ?_ ?_
      rotate_left
      · show Act.put _ (some 29) _ = _
        simp only [Act.put, List.setIfInBounds_toArray, List.set_cons_zero, List.set_cons_succ, i64_w, i32_w]
        rfl
      refine pure_ (i := 6) (N := some 30) (v := ?_) (a' := ?_) #[true, true, true, true, true, true, true, false] rfl rfl (by kernel_rfl) (fun _ _ _ h => h) (Or.inl ⟨by rfl, ?_⟩) ?_ ?_
      rotate_left
      · intro w'
        go_simp
        with_reducible rfl
      rotate_left
      · simp only [Act.put, List.setIfInBounds_toArray, List.set_cons_zero, List.set_cons_succ, i64_w, i32_w]
        rfl
      refine last_ (i := 7) (N := none) #[true, true, true, true, true, true, true, true] rfl rfl (by kernel_rfl) (by decide) (fun K hK => ?_)
      refine skip_ (w1 := ?_) (by rfl) rfl ?_ ?_
      rotate_left
      · go_simp
        rfl
      refine hK.out _ _ ?_
      clear hK K
      refine done_ (by kernel_rfl) ?_
      have e1' : (w2.setCell ⟨S1, 0, none⟩ (.slice R2 (j + 1) c2)).heap[S1]? = some (.cells #[.slice R2 (j + 1) c2, .int .u8 1, .string ⟨#[]⟩, .slice (some ⟨S, 0, none⟩) k k] 36 (0, 0)) := by rw [heap_set e1]; rfl
      have e0' := (keeps_one w2 S1 0 (.slice R2 (j + 1) c2)).heap e0 (by omega)
      have eL' := m1.far (keeps_one w2 S1 0 (.slice R2 (j + 1) c2)) e1 (by decide)
      have eB' := eB.setCell (p := ⟨S1, 0, none⟩) (show S ≤ S1 by omega) (.slice R2 (j + 1) c2)
      rw [HZ32.out, NX.out] at eL'
      clear m1 m2 m3 e1 e0 eB d0 d1 al0 GG NX p0 y0 y1 yL yB ys sB mk32 MZ mal alS cv ZL cS
      generalize w2.setCell ⟨S1, 0, none⟩ (.slice R2 (j + 1) c2) = w3 at *
      go_wp2
      go_roundw
      case rel => exact ⟨j + 1, c2, R2, hlt, by go_num, eL', e0', e1', eB'⟩
      case measure => simp [intOf]; omega
    · obtain rfl : j = n := by omega
      have t1 : decide ((j : Int) < (j : Int)) = false := by simp
      have zr : BSA wr (some ⟨S, 0, none⟩) k (List.replicate k 0) := bsa_same HZ.out (g0.trans hg0.out.symm)
      have hBW : Below w.heap.size w wr := BB.out.trans (hB.mono (by rw [HS.out]; have := BB1.out; omega))
      have PP : Hid (PrfAt wr R j c' (some ⟨S, 0, none⟩) k k (manyP j k)) := hid ⟨by show (List.replicate j zs32).length = j; exact List.length_replicate, by show (List.replicate k (0 : UInt8)).length = k; exact List.length_replicate, by omega, hL.at_, zr⟩
      replace BB := hid hBW
      obtain ⟨v0, v1, v2, v3, -, -, -, -⟩ := four g1
      clear hL zr hBW g0 g1 hB HZ hg0
      have H := hid (renc_any (c := c') (p := manyP j k) PP.out.1 PP.out.2.1 PP.out.2.2.2.1 PP.out.2.2.2.2 (many_holds (by omega) (by omega)))
      go_wp2_with fail
      refine H.out.mono ?_
      rintro e w5 ⟨A5, c5, rfl, r5, b5⟩
      replace BB := hid (below_then BB.out b5)
      obtain ⟨N, hN⟩ : ∃ N, N = (encB (manyP j k)).length := ⟨_, rfl⟩
      have hN2 : N ≤ 100000 := by rw [hN]; exact many_length (by omega) (by omega)
      rw [← hN]
      have HQ := hid hN
      have QQ := hid r5
      clear H hN r5 b5 v0 v1 v2 v3
      have D := hid (dec_any HQ.out.symm QQ.out.bsa (by omega))
      go_wp2_with fail
      refine D.out.mono ?_
      rintro e w6 ⟨A6, c6, B6, d6, rfl, t6, r6, b6⟩
      replace BB := hid (below_then BB.out b6)
      replace QQ := hid (QQ.out.below b6)
      unfold prfV
      have HR0 := many_res (n := j) (k := k) (by omega) (by omega)
      obtain ⟨RR, hRR⟩ : ∃ RR, RR = resB (encB (manyP j k)) := ⟨_, rfl⟩
      rw [← hRR] at HR0 ⊢
      obtain ⟨en, P⟩ := RR
      have HEN := hid (congrArg Prod.fst HR0)
      obtain ⟨ns, hns⟩ : ∃ ns, ns = (en, P).2.side.length := ⟨_, rfl⟩
      obtain ⟨nr, hnr⟩ : ∃ nr, nr = (en, P).2.row.length := ⟨_, rfl⟩
      rw [← hns, ← hnr]
      have al := below_alloc (Below.refl _ w6) (.cells #[.slice A6 ns c6, .int .u8 (P.kind.toNat : Int), .string P.key, .slice B6 nr d6] 30)
      replace BB := hid (below_then BB.out al)
      replace QQ := hid (QQ.out.below al)
      have RD := hid (reads_n HQ.out.symm QQ.out.bsa (by omega))
      clear D t6 r6 b6 HR0 hRR hns hnr al
      go_wp2_with fail
      refine RD.out.mono ?_
      rintro e w7 ⟨rfl, b7⟩
      replace BB := hid (below_then BB.out b7)
      clear RD b7
      by_cases h1 : j ≤ 256
      · have u1 : decide ((j : Int) ≤ 256) = true := by simp; omega
        by_cases h2 : k ≤ 4000
        · have u2 : decide ((k : Int) ≤ 4000) = true := by simp; omega
          have u3 : ((en : Int) == 0) = true := by rw [show en = 0 by have := HEN.out; rw [if_neg (by omega)] at this; exact this]; rfl
          go_wp2
          go_ret
          exact ⟨rfl, BB.out⟩
        · have u2 : decide ((k : Int) ≤ 4000) = false := by simp; omega
          have u3 : ((en : Int) == 0) = false := by rw [show en = 2 by have := HEN.out; rw [if_pos (by omega)] at this; exact this]; rfl
          go_wp2
          go_ret
          exact ⟨rfl, BB.out⟩
      · have u1 : decide ((j : Int) ≤ 256) = false := by simp; omega
        have u3 : ((en : Int) == 0) = false := by rw [show en = 2 by have := HEN.out; rw [if_pos (by omega)] at this; exact this]; rfl
        go_wp2
        go_ret
        exact ⟨rfl, BB.out⟩
end Go.Proofs.YtmbgfjcmdolggaaDoor
