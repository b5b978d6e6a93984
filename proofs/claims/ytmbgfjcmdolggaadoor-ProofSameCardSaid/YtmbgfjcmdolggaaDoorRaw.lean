/- A proof by numbers, opened; the walks of few, of of. -/
import Derived.Test.YtmbgfjcmdolggaaDoorLawProofReads
import Derived.Test.YtmbgfjcmdolggaaDoorParts
import Derived.Lib.SmallJoins
set_option linter.unusedVariables false
set_option linter.unusedSimpArgs false
namespace Go.Proofs.YtmbgfjcmdolggaaDoor
open Go.RowKit PrintLast Go.ChangeShapes Go.WideShapes Go.Deep Go.Joins

def texts (ps : List Part) : List (List UInt8) := ps.map (·.2.2)
theorem texts_length (ps : List Part) : (texts ps).length = ps.length := by simp [texts]
theorem texts_get {ps : List Part} {k : Nat} (h : k < ps.length) : (texts ps)[k]'(by rw [texts_length]; exact h) = ps[k].2.2 := by simp [texts]
/-- A proof by numbers that came in. -/
def RawAt (w : World) (A : Option Addr) (c : Nat) (ps : List Part) (key : ByteArray) (B : Option Addr) (d : Nat) (row : List UInt8) : Prop :=
  PartsAt w A ps ∧ ps.length ≤ c ∧ c ≤ maxLen ∧ key.size ≤ maxLen ∧ BSA w B d row
theorem RawAt.below {w w' : World} {A B : Option Addr} {c d : Nat} {ps : List Part} {key : ByteArray} {row : List UInt8} (h : RawAt w A c ps key B d row) (hb : Below w.heap.size w w') : RawAt w' A c ps key B d row :=
  ⟨h.1.below hb, h.2.1, h.2.2.1, h.2.2.2.1, h.2.2.2.2.below hb⟩

section
variable {H : Type} {enc : TypeId × Value → H} {w : World} {base : Nat} {spare : Nat → Bool} {held : Bool}
set_option maxRecDepth 100000 in
theorem open_raw {r : Reach} {b0 : Nat} {v : Value} {d : DataW H} {p : List MemPlace} (hv : Value.okWide Tryd.prog w r b0 25 v) (h : DataW.Trod enc Tryd.prog w base spare held 25 v d p) :
    ∃ (A : Option Addr) (c : Nat) (ps : List Part) (kd : UInt8) (key : ByteArray) (B : Option Addr) (dd : Nat) (row : List UInt8), v = .agg #[.slice A ps.length c, .int .u8 (kd.toNat : Int), .string key, .slice B row.length dd] ∧ RawAt w A c ps key B dd row := by
  obtain ⟨v0, v1, v2, v3, y0, y1, y2, y3, n, rfl, _, _, t0, t1, t2, t3⟩ := open_agg4 Tryd.underlying25 (by kernel_rfl) (by kernel_rfl) hv h
  obtain ⟨k1, e1, _, w1⟩ := DataW.trod_int Tryd.underlying5 t1
  obtain ⟨s2, e2, _, w2⟩ := DataW.trod_string Tryd.underlying9 t2
  obtain ⟨row, B, dd, e3, hb⟩ := open_bytes' t3
  have e0 : ∃ A l c, v0 = .slice A l c := by
    rcases open_slice Tryd.underlying22 t0 with ⟨hcs, _⟩ | ⟨ad, l, c, m, n, D, Pl, hcs, _⟩
    · exact ⟨none, 0, 0, by simpa using hcs⟩
    · exact ⟨some ad, l, c, by simpa using hcs⟩
  obtain ⟨A, l, c, rfl⟩ := e0
  obtain ⟨ps, rfl, h1, h2, h3⟩ := open_parts t0
  simp at e1 e2 e3
  subst e1 e2 e3
  refine ⟨A, c, ps, UInt8.ofNat k1.toNat, s2, B, dd, row, ?_, h3, h1, h2, w2, hb⟩
  rw [u8_of_int w1]
end

/-- Has it not too much? -/
def FewB (ps : List Part) (key : ByteArray) (row : List UInt8) : Prop := (∀ x ∈ texts ps, x.length ≤ 20) ∧ ps.length ≤ 20 ∧ key.size ≤ 40 ∧ row.length ≤ 40
instance (ps : List Part) (key : ByteArray) (row : List UInt8) : Decidable (FewB ps key row) := by unfold FewB; infer_instance

set_option maxRecDepth 100000 in
set_option maxHeartbeats 3200000 in
theorem few_any {w : World} {A B : Option Addr} {c d n m : Nat} {ps : List Part} {kd : UInt8} {key : ByteArray} {row : List UInt8} (hn : ps.length = n) (hm : row.length = m) (hr : RawAt w A c ps key B d row) :
    Calls Tryd.prog 12 #[.agg #[.slice A n c, .int .u8 (kd.toNat : Int), .string key, .slice B m d]] w fun e w' => e = .returned (.bool (decide (FewB ps key row))) ∧ Below w.heap.size w w' := by
  have al := below_alloc (Below.refl _ w) (.cells #[.slice A n c, .int .u8 (kd.toNat : Int), .string key, .slice B m d] 25)
  have gb := heap_alloc_new w (.cells #[.slice A n c, .int .u8 (kd.toNat : Int), .string key, .slice B m d] 25)
  have hr' := hr.below al
  obtain ⟨S, hS⟩ : ∃ S, S = w.heap.size := ⟨_, rfl⟩
  rw [← hS] at gb al
  have HS := hid hS
  have hb : n ≤ 9223372036854775807 := by have := hr.2.1; have := hr.2.2.1; unfold maxLen at this; omega
  have hm2 : m ≤ 9223372036854775807 := by have := hr.2.2.2.2.le; omega
  have hk2 : key.size ≤ 9223372036854775807 := by have := hr.2.2.2.1; unfold maxLen at this; omega
  have H1 := hid hr'.1
  have HN := hid (And.intro hn hm)
  clear hr hr' hn hm hS
  go_enter Tryd.func12, Tryd.ntmps12
  go_upto_region 1 with fail
  rw [← HS.out]
  generalize w.alloc (.cells #[.slice A n c, .int .u8 (kd.toNat : Int), .string key, .slice B m d] 25) = W at *
  obtain ⟨v0, v1, v2, v3, -, -, -, -⟩ := four gb
  have E0 : Hid (∀ x ∈ (texts ps).take 0, x.length ≤ 20) := hid (by simp)
  rw [HS.out] at al
  have HA := hid al
  clear gb al
  go_wp2
  go_loopw [3] (fun i wr => ∃ k : Nat, k ≤ n ∧ i = .int .i64 k ∧ Hid (∀ x ∈ (texts ps).take k, x.length ≤ 20) ∧ W = wr) (fun i _ => n - (intOf i).toNat)
  case atStart => exact ⟨0, Nat.zero_le _, rfl, E0, rfl⟩
  case round =>
    clear E0
    obtain ⟨k, hk, rfl, hE, rfl⟩ := hrel
    by_cases hlt : k < n
    · have t1 : decide ((k : Int) < (n : Int)) = true := by simp; omega
      have hk1 : k < ps.length := by rw [HN.out.1]; exact hlt
      obtain ⟨g, o, rfl, c1, q1⟩ := H1.out.at_ k hk1
      have hT1 : k < (texts ps).length := by rw [texts_length]; exact hk1
      have s1 := List.take_succ_eq_append_getElem hT1
      rw [texts_get hk1] at s1
      unfold partV at c1
      have hmem : ps[k].2.2 ∈ texts ps := by rw [← texts_get hk1]; exact List.getElem_mem _
      obtain ⟨⟨Ax, cx, x⟩, hx⟩ : ∃ x : Part, x = ps[k] := ⟨_, rfl⟩
      rw [← hx] at c1 s1 hmem
      by_cases hl : 20 < x.length
      · have t2 : decide ((20 : Int) < (x.length : Int)) = true := by simp; omega
        have hf : Hid (decide (FewB ps key row) = false) := hid (by
          rw [decide_eq_false_iff_not]
          intro e
          have h20 : x.length ≤ 20 := e.1 _ hmem
          omega)
        clear hx q1 s1 hmem hE
        go_wp2
        go_ret
        exact ⟨by rw [hf.out]; rfl, HA.out⟩
      · have t2 : decide ((20 : Int) < (x.length : Int)) = false := by simp; omega
        have hE' : Hid (∀ x ∈ (texts ps).take (k + 1), x.length ≤ 20) := hid (by
          intro z hz
          rw [s1] at hz
          simp only [List.mem_append, List.mem_singleton] at hz
          rcases hz with hz | rfl
          · exact hE.out z hz
          · show z.length ≤ 20; omega)
        clear hx q1 s1 hmem hE
        go_wp2
        go_roundw
        case rel => exact ⟨k + 1, hlt, by go_num, hE', trivial⟩
        case measure => simp [intOf]; omega
    · obtain rfl : k = n := by omega
      have t1 : decide ((k : Int) < (k : Int)) = false := by simp
      have all : Hid (∀ x ∈ texts ps, x.length ≤ 20) := hid (fun z hz => hE.out z (by rwa [List.take_of_length_le (by rw [texts_length]; exact Nat.le_of_eq HN.out.1)]))
      have FIN : Hid (∀ b, (decide (k ≤ 20) && decide (key.size ≤ 40) && decide (m ≤ 40)) = b → decide (FewB ps key row) = b) := hid (by
        intro b h
        have iff : FewB ps key row ↔ (k ≤ 20 ∧ key.size ≤ 40 ∧ m ≤ 40) := by
          unfold FewB
          rw [HN.out.1, HN.out.2]
          exact ⟨fun h => h.2, fun h => ⟨all.out, h⟩⟩
        rw [← h, decide_eq_decide.2 iff, Bool.decide_and, Bool.decide_and, Bool.and_assoc])
      clear hE
      by_cases h1 : k ≤ 20
      · have t2 : decide ((k : Int) ≤ 20) = true := by simp; omega
        by_cases h2 : key.size ≤ 40
        · have t3 : decide ((key.size : Int) ≤ 40) = true := by simp; omega
          by_cases h3 : m ≤ 40
          · have t4 : decide ((m : Int) ≤ 40) = true := by simp; omega
            have F := hid (FIN.out true (by simp [h1, h2, h3]))
            clear h1 h2 h3
            go_wp2
            go_ret
            exact ⟨by rw [F.out]; rfl, HA.out⟩
          · have t4 : decide ((m : Int) ≤ 40) = false := by simp; omega
            have F := hid (FIN.out false (by simp [h3]))
            clear h1 h2 h3
            go_wp2
            go_ret
            exact ⟨by rw [F.out]; rfl, HA.out⟩
        · have t3 : decide ((key.size : Int) ≤ 40) = false := by simp; omega
          have F := hid (FIN.out false (by simp [h2]))
          clear h1 h2
          go_wp2
          go_ret
          exact ⟨by rw [F.out]; rfl, HA.out⟩
      · have t2 : decide ((k : Int) ≤ 20) = false := by simp; omega
        have F := hid (FIN.out false (by simp [h1]))
        clear h1
        go_wp2
        go_ret
        exact ⟨by rw [F.out]; rfl, HA.out⟩

/-- The proof that numbers spell. -/
def ofP (ps : List Part) (kd : UInt8) (key : ByteArray) (row : List UInt8) : Prf :=
  ⟨(texts ps).map dig, kd % 3, if kd % 3 = 2 then key else ⟨#[]⟩, if kd % 3 = 0 then [] else row⟩
theorem kd3 (kd : UInt8) : (kd % 3).toNat = kd.toNat % 3 := by rw [UInt8.toNat_mod]; rfl
theorem ofP_fits {ps : List Part} {kd : UInt8} {key : ByteArray} {row : List UInt8} (h : FewB ps key row) : Fits (ofP ps kd key row) := by
  obtain ⟨h1, h2, h3, h4⟩ := h
  refine ⟨?_, ?_, ?_, ?_, ?_, ?_, ?_⟩
  · intro s hs
    obtain ⟨x, _, rfl⟩ := List.mem_map.1 hs
    exact dig_size x
  · show ((texts ps).map dig).length ≤ 256
    rw [List.length_map, texts_length]; omega
  · show (kd % 3).toNat ≤ 2
    rw [kd3]; omega
  · show (if kd % 3 = 2 then key else (⟨#[]⟩ : ByteArray)).size ≤ 4000
    split
    · omega
    · exact Nat.zero_le _
  · show (if kd % 3 = 0 then [] else row).length ≤ 4000
    split
    · exact Nat.zero_le _
    · omega
  · intro e
    show (if kd % 3 = 2 then key else (⟨#[]⟩ : ByteArray)) = _
    rw [if_neg (show ¬ kd % 3 = 2 from e)]; rfl
  · intro e
    show (if kd % 3 = 0 then [] else row) = _
    rw [if_pos (show kd % 3 = 0 from e)]
theorem fits_holds {p : Prf} (h : Fits p) : Holds p := by
  obtain ⟨h1, h2, h3, h4, h5, _⟩ := h
  exact ⟨by omega, by rw [sidesS_length _ h1]; omega, by omega, by omega⟩
end Go.Proofs.YtmbgfjcmdolggaaDoor
