/- DiskSafe: what is safe is never lost, but by Cut. -/
import Derived.Test.YtlfimleciemobaaDiskE
import Derived.Test.YtlfimleciemobaaActs
import Derived.Deep.DeepCutAuto
import Derived.Deep.CutBlock
namespace Go.Proofs.Ytlfimleciemobaa
open Go.RowKit PrintLast

/-- What one act leaves. -/
def SafeStep (s s' : DS) (m : Nat) : Prop :=
  s'.fails = false ∧ s'.p.length ≤ m ∧ s.safe ≤ s'.p.length ∧ s'.p.take s.safe = s.p.take s.safe ∧ s.safe ≤ s'.safe
theorem safe_append {s : DS} {q : List UInt8} {m : Nat} (hf : s.fails = false) (hs : s.safe ≤ s.p.length) (hm : s.p.length + q.length ≤ m) : SafeStep s (s.append q) m := by
  have ho : s.ok = true := by simp [DS.ok, hf]
  simp only [SafeStep, DS.append, ho, if_true, DS.called, hf, List.length_append]
  exact ⟨trivial, hm, by omega, by rw [List.take_append_of_le_length hs], Nat.le_refl _⟩
theorem safe_sync {s : DS} {m : Nat} (hf : s.fails = false) (hs : s.safe ≤ s.p.length) (hm : s.p.length ≤ m) : SafeStep s s.sync m := by
  have ho : s.ok = true := by simp [DS.ok, hf]
  simp only [SafeStep, DS.sync, ho, if_true, DS.called, hf]
  exact ⟨trivial, hm, hs, trivial, hs⟩
theorem safe_crash {s : DS} {n : Int} {m : Nat} (hs : s.safe ≤ s.p.length) (hm : s.p.length ≤ m) : SafeStep s (s.crash n) m := by
  simp only [SafeStep, DS.crash, List.length_take, List.take_take]
  refine ⟨trivial, by omega, by omega, ?_, by omega⟩
  rw [Nat.min_eq_left (by omega)]

set_option maxHeartbeats 1600000 in
theorem safe_walk {w : World} {A : Option Addr} {cap : Nat} {l : List DAct} (h0 : l.length ≤ cap ∧ cap ≤ maxLen ∧ ActsAt w A l) :
    Calls Try.prog 3 #[.slice A l.length cap] w fun e w' => e = .returned (.bool true) ∧ Below w.heap.size w w' := by
  obtain ⟨hl, hm, h⟩ := h0
  unfold maxLen at hm
  by_cases h60 : 60 < l.length
  · have t60 : decide ((60 : Int) < (l.length : Int)) = true := by simp; omega
    go_enter Try.func3, Try.ntmps3
    go_wp2_with fail
    refine keeps_any.mono ?_
    rintro e w1 ⟨rfl, hb1⟩
    go_wp2_with fail
    refine keeps_any.mono ?_
    rintro e w2 ⟨rfl, hb2⟩
    go_wp2
    go_ret
    exact ⟨rfl, below_then hb1 hb2⟩
  · have t60 : decide ((60 : Int) < (l.length : Int)) = false := by simp; omega
    go_enter Try.func3, Try.ntmps3
    go_wp2_with fail
    refine keeps_any.mono ?_
    rintro e w1 ⟨rfl, hb1⟩
    go_wp2_with fail
    refine (new_B (B := w.heap.size) hb1.size (BSA.nil w1) (by simp)).mono ?_
    rintro e w2 ⟨b, rfl, d2, hb2⟩
    have hb := below_then hb1 hb2
    clear hb1 hb2
    go_wp2
    go_loopw [4] (fun i wr => ∃ k : Nat, k ≤ l.length ∧ i = .int .i64 k ∧ Below w.heap.size w wr ∧ ∃ s, DiskB wr w.heap.size b s ∧ s.fails = false ∧ s.p.length ≤ 40 * k) (fun i _ => l.length - (intOf i).toNat)
    case atStart => exact ⟨0, Nat.zero_le _, rfl, hb, ⟨[], 0, 0, false⟩, d2, rfl, by simp⟩
    case round =>
      clear hb d2
      obtain ⟨k, hk, rfl, hb, s, d, hf, hp⟩ := hrel
      by_cases hlt : k < l.length
      · obtain ⟨ab, ao, B, c, rfl, c0, c1, c2, bp, hn⟩ := (h.below hb).at_ k hlt
        have s0 := hb.size
        by_cases h40 : 40 < l[k].p.length
        · have t40 : decide ((40 : Int) < (l[k].p.length : Int)) = true := by simp; omega
          go_wp2
          go_ret
          exact ⟨rfl, hb.alloc s0 _⟩
        · have t40 : decide ((40 : Int) < (l[k].p.length : Int)) = false := by simp; omega
          have dA := d.below ((Below.refl _ wr).alloc (Nat.le_refl _) (.cells #[.int .u8 (l[k].d.toNat : Int), .int .i64 l[k].n, .slice B l[k].p.length c] 28))
          go_wp2_with fail
          refine (read_B dA (by omega)).mono ?_
          rintro e w3 ⟨A3, c3, rfl, m3⟩
          have s3 := m3.2.2.size
          simp only [World.size_alloc] at s3
          have d3 := dA.below m3.2.2
          have hle := d3.le.1
          have x3 := below_heap m3.2.2 (heap_alloc_new wr (.cells #[.int .u8 (l[k].d.toNat : Int), .int .i64 l[k].n, .slice B l[k].p.length c] 28))
          have b3 := bp.below (below_then ((Below.refl _ wr).alloc (Nat.le_refl _) (.cells #[.int .u8 (l[k].d.toNat : Int), .int .i64 l[k].n, .slice B l[k].p.length c] 28)) m3.2.2)
          have hb3 := (hb.alloc s0 (.cells #[.int .u8 (l[k].d.toNat : Int), .int .i64 l[k].n, .slice B l[k].p.length c] 28)).trans (m3.2.2.mono (by simp; omega))
          have q3 := m3.bsa
          have q3c := q3.1
          clear dA hb c0 c1 c2 bp
          go_wp2_with fail
          refine (safe_B d3).mono ?_
          rintro e w3' ⟨rfl, rfl⟩
          have cutb : BSA w3 A3 c3 (s.p.take s.safe) := ⟨by simp; omega, q3.2.1, q3.2.2.1, fun ad e j hj => by rw [List.getElem_take]; exact q3.2.2.2 ad e j (by simp at hj; omega)⟩
          have cutl : (s.p.take s.safe).length = s.safe := by simp; omega
          have J := join_any cutb (BSA.nil w3) (by simp; omega)
          rw [cutl] at J
          have HJ := hid J
          clear J cutl
          go_wp2_with fail
          refine HJ.out.mono ?_
          rintro e w4 ⟨A4, c4, rfl, m4⟩
          have s4 := m4.2.2.size
          obtain ⟨hB, r, dr3, hr⟩ := d3
          have d3l := dr3.lt
          have dr := dr3.keeps (Keeps.of_below (S := fun _ => False) m4.2.2) (fun e => e) (fun _ _ e => e)
          have x4 := below_heap m4.2.2 x3
          have b4 := b3.below m4.2.2
          have hb4 := hb3.trans (m4.2.2.mono (by omega))
          have y4 := m4.bsa
          have k0 := cell_at x4 (i := 0) (v := .int .u8 (l[k].d.toNat : Int)) rfl
          have k1 := cell_at x4 (i := 1) (v := .int .i64 l[k].n) rfl
          have k2 := cell_at x4 (i := 2) (v := .slice B l[k].p.length c) rfl
          have n4 := m4.2.1
          clear dr3 x3 b3 hb3 q3 m3 m4 HJ cutb x4
          have a4 : ∀ ad, A4 = some ad → 0 < (s.p.take s.safe ++ []).length → ¬ Foot b r ad.block := by
            intro ad e _ hh
            have := n4 ad.block (by rw [e]; rfl)
            rcases hh with hh | hh
            · have := d3l.1; omega
            · have := d3l.2 _ hh; omega
          go_upto_block 2 with fail
          go_cut [] (fun wx => ∃ s', DiskB wx w.heap.size b s' ∧ SafeStep s s' (40 * (k + 1)) ∧ Below w.heap.size w wx ∧ BSA wx A4 c4 (s.p.take s.safe ++ []))
          case first =>
            have fin : ∀ (s' : DS) (r' : Option Nat) (w5 : World), SafeStep s s' (40 * (k + 1)) → DiskAt w5 b r' s' → Next w4 r r' → Keeps (Foot b r) w4 w5 → DiskB w5 w.heap.size b s' ∧ Below w.heap.size w w5 ∧ BSA w5 A4 c4 (s.p.take s.safe ++ []) := by
              intro s' r' w5 _ k1 k2 k3
              obtain ⟨q1, q2⟩ := DiskB.step (B := w.heap.size) (by omega) hB hr k1 k2 k3
              exact ⟨q1, hb4.trans q2, y4.keeps' k3 a4⟩
            have F := hid fin
            have S1 := hid (safe_append (s := s) (q := l[k].p) (m := 40 * (k + 1)) hf hle (by omega))
            have S2 := hid (safe_sync (s := s) (m := 40 * (k + 1)) hf hle (by omega))
            have S3 := hid (safe_crash (s := s) (n := l[k].n) (m := 40 * (k + 1)) hle (by omega))
            have C1 := hid (append_at dr b4 (by omega))
            have C2 := hid (sync_at dr)
            have C3 := hid (crash_any dr hn (by omega))
            clear fin
            go_wp2_with (first | (go_at_call 14; refine C1.out.mono ?_; rintro e w5 ⟨rfl, r', g1, g2, g3⟩) | (go_at_call 15; refine C2.out.mono ?_; rintro e w5 ⟨rfl, r', g1, g2, g3⟩) | (go_at_call 16; refine C3.out.mono ?_; rintro e w5 ⟨rfl, r', g1, g2, g3⟩))
            all_goals go_meet
            · exact ⟨_, (F.out _ _ _ S1.out g1 g2 g3).1, S1.out, (F.out _ _ _ S1.out g1 g2 g3).2⟩
            · exact ⟨_, (F.out _ _ _ S1.out g1 g2 g3).1, S1.out, (F.out _ _ _ S1.out g1 g2 g3).2⟩
            · exact ⟨_, (F.out _ _ _ S2.out g1 g2 g3).1, S2.out, (F.out _ _ _ S2.out g1 g2 g3).2⟩
            · exact ⟨_, (F.out _ _ _ S3.out g1 (fun k hk => .inr (g2 k hk)) (g3.mono fun k _ e => .inl e)).1, S3.out, (F.out _ _ _ S3.out g1 (fun k hk => .inr (g2 k hk)) (g3.mono fun k _ e => .inl e)).2⟩
          case rest =>
            obtain ⟨s', d5, ⟨p1, p2, p3, p4, p5⟩, hb5, y5⟩ := hcut
            have s5 := hb5.size
            have hle5 := d5.le.1
            clear k0 k1 k2 b4 hb4 dr y4 a4 n4
            go_wp2_with fail
            refine (read_B d5 (by omega)).mono ?_
            rintro e w6 ⟨A6, c6, rfl, m6⟩
            have s6 := m6.2.2.size
            have d6 := d5.below m6.2.2
            have hb6 := hb5.trans (m6.2.2.mono s5)
            have y6 := y5.below m6.2.2
            have q6 := m6.bsa
            have q6c := q6.1
            have t1 : decide ((s'.p.length : Int) < (s.safe : Int)) = false := by simp; omega
            have t2 : decide ((s'.p.length : Int) < (s'.safe : Int)) = false := by simp; omega
            have t3 : decide ((s'.safe : Int) < (s.safe : Int)) = false := by simp; omega
            have cutb : BSA w6 A6 c6 (s'.p.take s.safe) := ⟨by simp; omega, q6.2.1, q6.2.2.1, fun ad e j hj => by rw [List.getElem_take]; exact q6.2.2.2 ad e j (by simp at hj; omega)⟩
            have BB := bytes_any cutb y6
            have cl1 : (s'.p.take s.safe).length = s.safe := by simp; omega
            have cl2 : (s.p.take s.safe ++ []).length = s.safe := by simp; omega
            have cl3 : decide (s'.p.take s.safe = s.p.take s.safe ++ []) = true := by simp [p4]
            rw [cl1, cl2, cl3] at BB
            have HB := hid BB
            clear BB cl1 cl2 cl3 p4 cutb y6 y5 m6 d5 q6
            go_wp2_with fail
            refine HB.out.mono ?_
            rintro e w7 ⟨rfl, hb7⟩
            have s7 := hb7.size
            have d7 := d6.below hb7
            go_wp2_with fail
            refine (safe_B d7).mono ?_
            rintro e w8 ⟨rfl, rfl⟩
            go_wp2_with fail
            refine (safe_B d7).mono ?_
            rintro e w8 ⟨rfl, rfl⟩
            go_wp2
            go_roundw
            case rel => exact ⟨k + 1, by omega, by go_num, hb6.trans (hb7.mono (by omega)), s', d7, p1, p2⟩
            case measure => simp [intOf]; omega
      · go_wp2
        go_ret
        exact ⟨rfl, hb⟩
end Go.Proofs.Ytlfimleciemobaa
