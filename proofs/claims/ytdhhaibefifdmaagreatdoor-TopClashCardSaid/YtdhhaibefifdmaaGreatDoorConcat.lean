/- Bytes of a string; append of bytes that may be none; the walks of slices.Grow and slices.Concat. -/
import Derived.Test.YtdhhaibefifdmaaGreatDoorNum
import Derived.Lib.AppendZeros
import Derived.Laws.IdiomStrings
set_option linter.unusedVariables false
set_option linter.unusedSimpArgs false
namespace Go.Proofs.YtdhhaibefifdmaaGreatDoor
open Go.RowKit PrintLast

/-- What the conversion of a string to bytes leaves. -/
theorem str_bsa (w : World) (s : ByteArray) (hs : s.size ≤ maxLen) {fr : Nat × Nat} : BSA (w.drew.alloc (.cells (bytesRow s (grownCap w s.size 0 5)) 5 fr)) (some ⟨w.heap.size, 0, none⟩) (grownCap w s.size 0 5) s.data.toList := by
  have hl : s.data.toList.length = s.size := by simp
  refine ⟨by rw [hl]; exact grownCap_ge w s.size 0 5, grownCap_le_maxLen w s.size 0 5 hs, (fun e => by cases e), fun ad e j hj => ?_⟩
  cases e
  rw [add_plain]
  have hj' : j < s.data.size := by simpa using hj
  exact cell_at (heap_alloc_new w.drew _) (bytesRow_at s _ j hj')

/-- '[]byte(s)' in the walk. -/
theorem wpList_conv {w : World} {ops : Array Oper} {rest : List Oper} {o : Oper} {a : Act} {Q : Exit → Act → World → Prop} (hgd : o.guard = none) (x : Operand)
    (ho : o.op = .convert 9 22 x) (s : ByteArray) (hx : a.eval x = .string s) (hs : s.size ≤ maxLen)
    (h : ∀ g c w', w.heap.size ≤ g → BSA w' (some ⟨g, 0, none⟩) c s.data.toList → Below w.heap.size w w' → wpList Tryz.prog ops Q rest (a.put o.dst (.slice (some ⟨g, 0, none⟩) s.size c)) w') : wpList Tryz.prog ops Q (o :: rest) a w := by
  refine wpList_plain hgd fun K hK' => ?_
  have hrun := run_bytes_of_string (P := Tryz.prog) w 9 22 5 s Tryz.underlying9 Tryz.underlying22 Tryz.underlying5
  unfold Oper.wp
  simp [execOp, ho, hx, hrun, Result.andThen]
  exact hK' _ _ (h w.heap.size _ _ (Nat.le_refl _) (str_bsa w s hs) ((Below.refl w.heap.size w).drew.alloc (Nat.le_refl _) _))

theorem Row.raise {w : World} {A : Option Addr} {n c B : Nat} {l : List UInt8} (h : w.ownsRow 0 5 1 (.slice A n c) l.length (bytesV l)) (hn : n = l.length) (hB : ∀ k, (Value.slice A n c).ownBlock = some k → B ≤ k) : Row w B A c l := by
  subst hn
  refine ⟨h.1, ?_⟩
  rcases h.2 with k | ⟨g, cap, cur, e, hb, r⟩
  · exact .inl k
  · exact .inr ⟨g, cap, cur, e, hB g (by rw [e]; rfl), r⟩

/-- 'append' of bytes that are read, or none, to a row of the call's own. -/
theorem wpList_appO {w : World} {ops : Array Oper} {rest : List Oper} {o : Oper} {a : Act} {Q : Exit → Act → World → Prop} (hgd : o.guard = none) (s x : Operand)
    (ho : o.op = .call { callee := .builtin .append, args := #[s, x], argTypes := #[22, 22] }) (B : Nat) (hB : B ≤ w.heap.size)
    (R : Option Addr) (c : Nat) (l : List UInt8) (hs : a.eval s = .slice R l.length c) (hR : Row w B R c l) (A : Option Addr) (c2 : Nat) (q : List UInt8) (hx : a.eval x = .slice A q.length c2) (hb : BSA w A c2 q)
    (h47 : l.length + q.length ≤ 140737488355328) (n : Nat) (hn : l.length + q.length = n)
    (h : ∀ R' c' w', Row w' B R' c' (l ++ q) → Below B w w' → wpList Tryz.prog ops Q rest (a.put o.dst (.slice R' n c')) w') : wpList Tryz.prog ops Q (o :: rest) a w := by
  subst hn
  refine wpList_app8 22 5 Tryz.underlying22 infU8' hgd s x ho _ l hs (hR.lower (Nat.zero_le _)) A c2 q hx hb h47 ?_
  intro A' c' w' k1 k2 k3 _
  have hfr : ∀ k, (Value.slice R l.length c).ownBlock = some k → B ≤ k := fun k hk => (hR.lt k hk).1
  refine h A' c' w' (Row.raise (by simpa using k1) (by simp) (fun k hk => ?_)) ((Below.refl B w).grown k2 hB hfr)
  rcases k3 with e | e
  · rw [e] at hk; exact hfr k hk
  · rw [e] at hk; simp at hk; omega

set_option maxHeartbeats 1600000 in
theorem grow_any {w : World} {n : Nat} (hn : n ≤ 140737488355328) :
    Calls Tryz.prog 103 #[.slice none 0 0, .int .i64 (n : Int)] w fun e w' => ∃ A' c', e = .returned (.slice A' 0 c') ∧ Row w' w.heap.size A' c' [] ∧ Below w.heap.size w w' := by
  have t0 : decide ((n : Int) < 0) = false := by simp
  by_cases h0 : 0 < n
  · have t1 : decide ((0 : Int) < (n : Int)) = true := by simp; omega
    go_enter Tryz.func103, Tryz.ntmps103
    have eb : Tryz.t5.bytes = 1 := rfl
    have x1 : ¬ ((281474976710656 : Int) < (n : Int) * (Tryz.t5.bytes : Int)) := by rw [eb]; omega
    have x2 : ¬ (281474976710656 < Builtin.nextslicecap n 0 * Tryz.t5.bytes) := by rw [eb, nextslicecap_zero h0]; omega
    clear eb
    go_wp2
    all_goals (try (exfalso; first | exact x1 ‹_› | exact x2 ‹_› | omega))
    go_ret
    have hge := grownCap_ge w n 0 5
    have hcm := grownCap_le_maxLen w n 0 5 (by unfold maxLen; omega)
    refine ⟨some ⟨w.heap.size, 0, none⟩, grownCap w n 0 5, rfl, ?_, ((Below.refl _ _).alloc (Nat.le_refl _) _).drew⟩
    exact World.ownsRow_made w _ _ (Nat.le_refl _) hcm (by simp only [Array.size_append, size_zeroCells, List.size_toArray, List.length_cons, List.length_nil]; show n * (0 + 1) + (grownCap w n 0 5 - n) * (0 + 1) = _; omega)
  · have e0 : n = 0 := by omega
    subst e0
    go_enter Tryz.func103, Tryz.ntmps103
    go_wp2
    go_ret
    exact ⟨none, 0, rfl, Row.nil _ _, Below.refl _ _⟩

/-- Parts that are put one behind the other. -/
abbrev Part := Option Addr × Nat × List UInt8
def partV (x : Part) : Value := .slice x.1 x.2.2.length x.2.1
def flat (ps : List Part) : List UInt8 := ps.flatMap (·.2.2)
theorem flat_next (ps : List Part) (k : Nat) (h : k < ps.length) : flat (ps.take (k + 1)) = flat (ps.take k) ++ ps[k].2.2 := by
  unfold flat
  rw [List.take_succ_eq_append_getElem h, List.flatMap_append]
  simp
theorem flat_le (ps : List Part) (k : Nat) : (flat (ps.take k)).length ≤ (flat ps).length := by
  have : flat ps = flat (ps.take k) ++ flat (ps.drop k) := by
    unfold flat
    rw [← List.flatMap_append, List.take_append_drop]
  rw [this, List.length_append]
  omega

set_option maxHeartbeats 1600000 in
theorem concat_any {w : World} {g : Nat} {ps : List Part} (hc : ∀ k (h : k < ps.length), w.cell? ⟨g, k, none⟩ = some (partV ps[k])) (hp : ∀ k (h : k < ps.length), BSA w ps[k].1 ps[k].2.1 ps[k].2.2) (hps : ps.length ≤ 1000) (hbig : (flat ps).length ≤ 1000000000000) :
    Calls Tryz.prog 67 #[.slice (some ⟨g, 0, none⟩) ps.length ps.length] w fun e w' => ∃ A' c', e = .returned (.slice A' (flat ps).length c') ∧ Row w' w.heap.size A' c' (flat ps) ∧ Below w.heap.size w w' := by
  obtain ⟨n, hn⟩ : ∃ n, n = ps.length := ⟨_, rfl⟩
  have HC := hid hc
  have HP := hid hp
  have HN := hid hn
  rw [← hn] at hps ⊢
  obtain ⟨T, hT⟩ : ∃ T, T = (flat ps).length := ⟨_, rfl⟩
  have HT := hid hT
  have hTb : T ≤ 1000000000000 := by omega
  have hall : flat (ps.take n) = flat ps := by rw [hn, List.take_length]
  have HALL := hid hall
  rw [← hT]
  clear hc hp hn hT hbig hall
  have b0 := Below.refl w.heap.size w
  go_enter Tryz.func67, Tryz.ntmps67
  go_wp2
  go_loopw [3, 11] (fun v i wr => ∃ k S : Nat, k ≤ n ∧ i = .int .i64 k ∧ v = .int .i64 S ∧ Hid (S = (flat (ps.take k)).length) ∧ S ≤ T ∧ Below w.heap.size w wr) (fun _ i _ => n - (intOf i).toNat)
  case atStart => exact ⟨0, 0, Nat.zero_le _, rfl, rfl, hid (by simp [flat]), Nat.zero_le _, b0⟩
  case round =>
    clear b0
    obtain ⟨k, S, hk, rfl, rfl, hS, hST, hB⟩ := hrel
    by_cases hlt : k < n
    · have t1 : decide ((k : Int) < (n : Int)) = true := by simp; omega
      have hkp : k < ps.length := by rw [← HN.out]; exact hlt
      have ck := below_cell hB (HC.out k hkp)
      have hf := flat_next ps k hkp
      have hfl := flat_le ps (k + 1)
      unfold partV at ck
      obtain ⟨⟨A, c, l⟩, hx⟩ : ∃ x : Part, x = ps[k] := ⟨_, rfl⟩
      rw [← hx] at ck hf
      obtain ⟨m, hm⟩ : ∃ m, m = l.length := ⟨_, rfl⟩
      obtain ⟨S', hS'⟩ : ∃ S', S' = (flat (ps.take (k + 1))).length := ⟨_, rfl⟩
      have e1 : (S : Int) + (m : Int) = (S' : Int) := by rw [hS', hf, List.length_append, ← hS.out, hm]; simp
      have hST' : S' ≤ T := by rw [hS', HT.out]; exact hfl
      have t2 : decide ((S' : Int) < 0) = false := by simp
      have HS' := hid hS'
      simp only [← hm] at ck
      clear hf hfl hx hS hm hS'
      go_wp2
      go_roundw
      case rel => exact ⟨k + 1, S', hlt, by go_num, rfl, HS', hST', hB⟩
      case measure => simp [intOf]; omega
    · obtain rfl : k = n := by omega
      have t1 : decide ((k : Int) < (k : Int)) = false := by simp
      have eS : S = T := by rw [hS.out, HALL.out, HT.out]
      subst eS
      have sB := hB.size
      clear hST hS
      go_wp2_with fail
      refine (grow_any (by omega)).mono ?_
      rintro e w1 ⟨A1, c1, rfl, r1, b1⟩
      have hB1 := hB.trans (b1.mono sB)
      have r1' := r1.lower sB
      clear b1 hB r1 sB
      go_wp2
      go_loopw [6, 27] (fun v i wr => ∃ (j L : Nat) (R : Option Addr) (c : Nat), j ≤ k ∧ i = .int .i64 j ∧ v = .slice R L c ∧ Hid (L = (flat (ps.take j)).length) ∧ Row wr w.heap.size R c (flat (ps.take j)) ∧ Below w.heap.size w wr) (fun _ i _ => k - (intOf i).toNat)
      case atStart => exact ⟨0, 0, A1, c1, Nat.zero_le _, rfl, rfl, hid (by simp [flat]), by simpa [flat] using r1', hB1⟩
      case round =>
        clear r1' hB1
        obtain ⟨j, L, R, c2, hj, rfl, rfl, hL, hR, hB⟩ := hrel
        by_cases hlt : j < k
        · have t3 : decide ((j : Int) < (k : Int)) = true := by simp; omega
          have hjp : j < ps.length := by rw [← HN.out]; exact hlt
          have ck := below_cell hB (HC.out j hjp)
          have pk := (HP.out j hjp).below hB
          have hf := flat_next ps j hjp
          have hfl := flat_le ps (j + 1)
          unfold partV at ck
          obtain ⟨⟨A, c, l⟩, hx⟩ : ∃ x : Part, x = ps[j] := ⟨_, rfl⟩
          rw [← hx] at ck hf pk
          obtain ⟨L', hL'⟩ : ∃ L', L' = (flat (ps.take (j + 1))).length := ⟨_, rfl⟩
          have e1 : L' = L + l.length := by rw [hL', hf, List.length_append, ← hL.out]
          have hLb : L' ≤ S := by rw [hL', HT.out]; exact hfl
          have HL' := hid hL'
          have hE1 := hid e1
          have HF := hid hf
          clear hx hfl hL' e1 hf
          go_wp2_with (refine wpList_appO rfl (.tmp 31) (.tmp 32) rfl w.heap.size hB.size R c2 (flat (ps.take j)) (by rw [← hL.out]; rfl) hR A c l rfl pk (by rw [← hL.out]; have := hE1.out; omega) L' (by rw [← hL.out]; exact hE1.out.symm) ?_)
          intro R' c' w' r' b'
          have hB' := hB.trans b'
          rw [← HF.out] at r'
          clear hB b' hR pk
          go_wp2
          go_roundw
          case rel => exact ⟨j + 1, L', R', c', hlt, by go_num, rfl, HL', r', hB'⟩
          case measure => simp [intOf]; omega
        · obtain rfl : j = k := by omega
          have t3 : decide ((j : Int) < (j : Int)) = false := by simp
          rw [HALL.out] at hR
          have eL : L = S := by rw [hL.out, HALL.out, HT.out]
          subst eL
          clear hL
          go_wp2
          go_ret
          exact ⟨R, c2, rfl, hR, hB⟩

/-- The block of parts, as the walk lays it. -/
theorem parts_cells (w : World) (ps : List Part) {T : TypeId} : ∀ k (h : k < ps.length), (w.alloc (.cells (ps.map partV).toArray T)).cell? ⟨w.heap.size, k, none⟩ = some (partV ps[k]) := fun k h =>
  cell_at (heap_alloc_new w _) (by simp [h])
theorem concat3 {w : World} {p1 p2 p3 : Part} {L : List UInt8} (hL : p1.2.2 ++ p2.2.2 ++ p3.2.2 = L) (h1 : BSA w p1.1 p1.2.1 p1.2.2) (h2 : BSA w p2.1 p2.2.1 p2.2.2) (h3 : BSA w p3.1 p3.2.1 p3.2.2) (hbig : L.length ≤ 1000000000000) :
    Calls Tryz.prog 67 #[.slice (some ⟨w.heap.size, 0, none⟩) 3 3] (w.alloc (.cells #[partV p1, partV p2, partV p3] 22)) fun e w' => ∃ A' c', e = .returned (.slice A' L.length c') ∧ Row w' w.heap.size A' c' L ∧ Below w.heap.size w w' := by
  have al := below_alloc (Below.refl _ w) (.cells #[partV p1, partV p2, partV p3] 22)
  have hF : flat [p1, p2, p3] = L := by simp [flat, ← hL]
  have HC := concat_any (w := w.alloc (.cells #[partV p1, partV p2, partV p3] 22)) (g := w.heap.size) (ps := [p1, p2, p3]) (parts_cells w [p1, p2, p3])
    (fun k h => match k, h with
      | 0, _ => h1.below al
      | 1, _ => h2.below al
      | 2, _ => h3.below al) (by simp) (by rw [hF]; exact hbig)
  rw [hF] at HC
  refine HC.mono ?_
  rintro e w' ⟨A', c', rfl, r, b⟩
  exact ⟨A', c', rfl, r.lower al.size, below_then al b⟩
theorem concat4 {w : World} {p1 p2 p3 p4 : Part} {L : List UInt8} (hL : p1.2.2 ++ p2.2.2 ++ p3.2.2 ++ p4.2.2 = L) (h1 : BSA w p1.1 p1.2.1 p1.2.2) (h2 : BSA w p2.1 p2.2.1 p2.2.2) (h3 : BSA w p3.1 p3.2.1 p3.2.2) (h4 : BSA w p4.1 p4.2.1 p4.2.2) (hbig : L.length ≤ 1000000000000) :
    Calls Tryz.prog 67 #[.slice (some ⟨w.heap.size, 0, none⟩) 4 4] (w.alloc (.cells #[partV p1, partV p2, partV p3, partV p4] 22)) fun e w' => ∃ A' c', e = .returned (.slice A' L.length c') ∧ Row w' w.heap.size A' c' L ∧ Below w.heap.size w w' := by
  have al := below_alloc (Below.refl _ w) (.cells #[partV p1, partV p2, partV p3, partV p4] 22)
  have hF : flat [p1, p2, p3, p4] = L := by simp [flat, ← hL]
  have HC := concat_any (w := w.alloc (.cells #[partV p1, partV p2, partV p3, partV p4] 22)) (g := w.heap.size) (ps := [p1, p2, p3, p4]) (parts_cells w [p1, p2, p3, p4])
    (fun k h => match k, h with
      | 0, _ => h1.below al
      | 1, _ => h2.below al
      | 2, _ => h3.below al
      | 3, _ => h4.below al) (by simp) (by rw [hF]; exact hbig)
  rw [hF] at HC
  refine HC.mono ?_
  rintro e w' ⟨A', c', rfl, r, b⟩
  exact ⟨A', c', rfl, r.lower al.size, below_then al b⟩
theorem lits_bsa (w : World) (l : List UInt8) (hl : l.length ≤ 1000) : BSA (w.alloc (.cells (bytesV l).toArray 5)) (some ⟨w.heap.size, 0, none⟩) l.length l := by
  refine ⟨Nat.le_refl _, by unfold maxLen; omega, (fun e => by cases e), fun ad e j hj => ?_⟩
  cases e
  rw [add_plain]
  exact cell_at (heap_alloc_new w _) (by rw [List.getElem?_toArray]; exact bytesV_get l j hj)
end Go.Proofs.YtdhhaibefifdmaaGreatDoor
