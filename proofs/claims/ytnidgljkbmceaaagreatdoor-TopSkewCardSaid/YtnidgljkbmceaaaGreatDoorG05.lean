/- Bytes of a string; append of bytes that may be none; the walks of slices.Grow and slices.Concat. -/
import Derived.Test.YtnidgljkbmceaaaGreatDoorG00
import Derived.Lib.AppendZeros
import Derived.Laws.IdiomStrings
import Derived.Test.YtnidgljkbmceaaaGreatDoorChecked
import Derived.Outline
import Derived.WalkSpells
import Derived.WalkLawsBesides
import Derived.Test.YtnidgljkbmceaaaGreatDoorG03
import Derived.Test.YtnidgljkbmceaaaGreatDoorG04
import Derived.Lib.AppendStr
import Derived.Deep.RegionLaw
import Derived.Test.YtnidgljkbmceaaaGreatDoorLast
import Derived.Lib.SlBytesConst
set_option linter.unusedVariables false
set_option linter.unusedSimpArgs false
namespace Go.Proofs.YtnidgljkbmceaaaGreatDoor
open Go.RowKit PrintLast
theorem str_bsa (w : World) (s : ByteArray) (hs : s.size ≤ maxLen) {fr : Nat × Nat} : BSA (w.drew.alloc (.cells (bytesRow s (grownCap w s.size 0 5)) 5 fr)) (some ⟨w.heap.size, 0, none⟩) (grownCap w s.size 0 5) s.data.toList := by
  have hl : s.data.toList.length = s.size := by simp
  refine ⟨by rw [hl]; exact grownCap_ge w s.size 0 5, grownCap_le_maxLen w s.size 0 5 hs, (fun e => by cases e), fun ad e j hj => ?_⟩
  cases e
  rw [add_plain]
  have hj' : j < s.data.size := by simpa using hj
  exact cell_at (heap_alloc_new w.drew _) (bytesRow_at s _ j hj')
theorem wpList_conv {w : World} {ops : Array Oper} {rest : List Oper} {o : Oper} {a : Act} {Q : Exit → Act → World → Prop} (hgd : o.guard = none) (x : Operand)
    (ho : o.op = .convert 9 36 x) (s : ByteArray) (hx : a.eval x = .string s) (hs : s.size ≤ maxLen)
    (h : ∀ g c w', w.heap.size ≤ g → BSA w' (some ⟨g, 0, none⟩) c s.data.toList → Below w.heap.size w w' → wpList Tryz.prog ops Q rest (a.put o.dst (.slice (some ⟨g, 0, none⟩) s.size c)) w') : wpList Tryz.prog ops Q (o :: rest) a w := by
  refine wpList_plain hgd fun K hK' => ?_
  have hrun := run_bytes_of_string (P := Tryz.prog) w 9 36 5 s Tryz.underlying9 Tryz.underlying36 Tryz.underlying5
  unfold Oper.wp
  simp [execOp, ho, hx, hrun, Result.andThen]
  exact hK' _ _ (h w.heap.size _ _ (Nat.le_refl _) (str_bsa w s hs) ((Below.refl w.heap.size w).drew.alloc (Nat.le_refl _) _))
theorem Row.raise {w : World} {A : Option Addr} {n c B : Nat} {l : List UInt8} (h : w.ownsRow 0 5 1 (.slice A n c) l.length (bytesV l)) (hn : n = l.length) (hB : ∀ k, (Value.slice A n c).ownBlock = some k → B ≤ k) : Row w B A c l := by
  subst hn
  refine ⟨h.1, ?_⟩
  rcases h.2 with k | ⟨g, cap, cur, e, hb, r⟩
  · exact .inl k
  · exact .inr ⟨g, cap, cur, e, hB g (by rw [e]; rfl), r⟩
theorem wpList_appO {w : World} {ops : Array Oper} {rest : List Oper} {o : Oper} {a : Act} {Q : Exit → Act → World → Prop} (hgd : o.guard = none) (s x : Operand)
    (ho : o.op = .call { callee := .builtin .append, args := #[s, x], argTypes := #[36, 36] }) (B : Nat) (hB : B ≤ w.heap.size)
    (R : Option Addr) (c : Nat) (l : List UInt8) (hs : a.eval s = .slice R l.length c) (hR : Row w B R c l) (A : Option Addr) (c2 : Nat) (q : List UInt8) (hx : a.eval x = .slice A q.length c2) (hb : BSA w A c2 q)
    (h47 : l.length + q.length ≤ 140737488355328) (n : Nat) (hn : l.length + q.length = n)
    (h : ∀ R' c' w', Row w' B R' c' (l ++ q) → Below B w w' → wpList Tryz.prog ops Q rest (a.put o.dst (.slice R' n c')) w') : wpList Tryz.prog ops Q (o :: rest) a w := by
  subst hn
  refine wpList_app8 36 5 Tryz.underlying36 infU8' hgd s x ho _ l hs (hR.lower (Nat.zero_le _)) A c2 q hx hb h47 ?_
  intro A' c' w' k1 k2 k3 _
  have hfr : ∀ k, (Value.slice R l.length c).ownBlock = some k → B ≤ k := fun k hk => (hR.lt k hk).1
  refine h A' c' w' (Row.raise (by simpa using k1) (by simp) (fun k hk => ?_)) ((Below.refl B w).grown k2 hB hfr)
  rcases k3 with e | e
  · rw [e] at hk; exact hfr k hk
  · rw [e] at hk; simp at hk; omega
set_option maxHeartbeats 1600000 in
theorem grow_any {w : World} {n : Nat} (hn : n ≤ 140737488355328) :
    Calls Tryz.prog 205 #[.slice none 0 0, .int .i64 (n : Int)] w fun e w' => ∃ A' c', e = .returned (.slice A' 0 c') ∧ Row w' w.heap.size A' c' [] ∧ Below w.heap.size w w' := by
  have t0 : decide ((n : Int) < 0) = false := by simp
  by_cases h0 : 0 < n
  · have t1 : decide ((0 : Int) < (n : Int)) = true := by simp; omega
    go_enter Tryz.func205, Tryz.ntmps205
    have eb : Tryz.t5.bytes = 1 := rfl
    have x1 : ¬ ((281474976710656 : Int) < (n : Int) * (Tryz.t5.bytes : Int)) := by rw [eb]; omega
    have x2 : ¬ (281474976710656 < Builtin.nextslicecap n 0 * Tryz.t5.bytes) := by rw [eb, nextslicecap_zero h0]; omega
    clear eb
    go_wp2
    all_goals (try (exfalso; first | exact x1 ‹_› | exact x2 ‹_› | omega))
    go_ret
    have hge := grownCap_ge w n 0 5
    have hcm := grownCap_le_maxLen w n 0 5 (by unfold maxLen; omega)
    refine ⟨some ⟨w.heap.size, 0, none⟩, grownCap w n 0 5, rfl, ?_, ((Below.refl _ _).alloc (Nat.le_refl _) _).drew⟩
    exact World.ownsRow_made w _ _ (Nat.le_refl _) hcm (by simp only [Array.size_append, size_zeroCells, List.size_toArray, List.length_cons, List.length_nil]; show n * (0 + 1) + (grownCap w n 0 5 - n) * (0 + 1) = _; omega)
  · have e0 : n = 0 := by omega
    subst e0
    go_enter Tryz.func205, Tryz.ntmps205
    go_wp2
    go_ret
    exact ⟨none, 0, rfl, Row.nil _ _, Below.refl _ _⟩
abbrev Part := Option Addr × Nat × List UInt8
def partV (x : Part) : Value := .slice x.1 x.2.2.length x.2.1
def flat (ps : List Part) : List UInt8 := ps.flatMap (·.2.2)
theorem flat_next (ps : List Part) (k : Nat) (h : k < ps.length) : flat (ps.take (k + 1)) = flat (ps.take k) ++ ps[k].2.2 := by
  unfold flat
  rw [List.take_succ_eq_append_getElem h, List.flatMap_append]
  simp
theorem flat_le (ps : List Part) (k : Nat) : (flat (ps.take k)).length ≤ (flat ps).length := by
  have : flat ps = flat (ps.take k) ++ flat (ps.drop k) := by
    unfold flat
    rw [← List.flatMap_append, List.take_append_drop]
  rw [this, List.length_append]
  omega
set_option maxHeartbeats 1600000 in
theorem concat_any {w : World} {g : Nat} {ps : List Part} (hc : ∀ k (h : k < ps.length), w.cell? ⟨g, k, none⟩ = some (partV ps[k])) (hp : ∀ k (h : k < ps.length), BSA w ps[k].1 ps[k].2.1 ps[k].2.2) (hps : ps.length ≤ 1000) (hbig : (flat ps).length ≤ 1000000000000) :
    Calls Tryz.prog 159 #[.slice (some ⟨g, 0, none⟩) ps.length ps.length] w fun e w' => ∃ A' c', e = .returned (.slice A' (flat ps).length c') ∧ Row w' w.heap.size A' c' (flat ps) ∧ Below w.heap.size w w' := by
  obtain ⟨n, hn⟩ : ∃ n, n = ps.length := ⟨_, rfl⟩
  have HC := hid hc
  have HP := hid hp
  have HN := hid hn
  rw [← hn] at hps ⊢
  obtain ⟨T, hT⟩ : ∃ T, T = (flat ps).length := ⟨_, rfl⟩
  have HT := hid hT
  have hTb : T ≤ 1000000000000 := by omega
  have hall : flat (ps.take n) = flat ps := by rw [hn, List.take_length]
  have HALL := hid hall
  rw [← hT]
  clear hc hp hn hT hbig hall
  have b0 := Below.refl w.heap.size w
  go_enter Tryz.func159, Tryz.ntmps159
  go_wp2
  go_loopw [3, 11] (fun v i wr => ∃ k S : Nat, k ≤ n ∧ i = .int .i64 k ∧ v = .int .i64 S ∧ Hid (S = (flat (ps.take k)).length) ∧ S ≤ T ∧ Below w.heap.size w wr) (fun _ i _ => n - (intOf i).toNat)
  case atStart => exact ⟨0, 0, Nat.zero_le _, rfl, rfl, hid (by simp [flat]), Nat.zero_le _, b0⟩
  case round =>
    clear b0
    obtain ⟨k, S, hk, rfl, rfl, hS, hST, hB⟩ := hrel
    by_cases hlt : k < n
    · have t1 : decide ((k : Int) < (n : Int)) = true := by simp; omega
      have hkp : k < ps.length := by rw [← HN.out]; exact hlt
      have ck := below_cell hB (HC.out k hkp)
      have hf := flat_next ps k hkp
      have hfl := flat_le ps (k + 1)
      unfold partV at ck
      obtain ⟨⟨A, c, l⟩, hx⟩ : ∃ x : Part, x = ps[k] := ⟨_, rfl⟩
      rw [← hx] at ck hf
      obtain ⟨m, hm⟩ : ∃ m, m = l.length := ⟨_, rfl⟩
      obtain ⟨S', hS'⟩ : ∃ S', S' = (flat (ps.take (k + 1))).length := ⟨_, rfl⟩
      have e1 : (S : Int) + (m : Int) = (S' : Int) := by rw [hS', hf, List.length_append, ← hS.out, hm]; simp
      have hST' : S' ≤ T := by rw [hS', HT.out]; exact hfl
      have t2 : decide ((S' : Int) < 0) = false := by simp
      have HS' := hid hS'
      simp only [← hm] at ck
      clear hf hfl hx hS hm hS'
      go_wp2
      go_roundw
      case rel => exact ⟨k + 1, S', hlt, by go_num, rfl, HS', hST', hB⟩
      case measure => simp [intOf]; omega
    · obtain rfl : k = n := by omega
      have t1 : decide ((k : Int) < (k : Int)) = false := by simp
      have eS : S = T := by rw [hS.out, HALL.out, HT.out]
      subst eS
      have sB := hB.size
      clear hST hS
      go_wp2_with fail
      refine (grow_any (by omega)).mono ?_
      rintro e w1 ⟨A1, c1, rfl, r1, b1⟩
      have hB1 := hB.trans (b1.mono sB)
      have r1' := r1.lower sB
      clear b1 hB r1 sB
      go_wp2
      go_loopw [6, 27] (fun v i wr => ∃ (j L : Nat) (R : Option Addr) (c : Nat), j ≤ k ∧ i = .int .i64 j ∧ v = .slice R L c ∧ Hid (L = (flat (ps.take j)).length) ∧ Row wr w.heap.size R c (flat (ps.take j)) ∧ Below w.heap.size w wr) (fun _ i _ => k - (intOf i).toNat)
      case atStart => exact ⟨0, 0, A1, c1, Nat.zero_le _, rfl, rfl, hid (by simp [flat]), by simpa [flat] using r1', hB1⟩
      case round =>
        clear r1' hB1
        obtain ⟨j, L, R, c2, hj, rfl, rfl, hL, hR, hB⟩ := hrel
        by_cases hlt : j < k
        · have t3 : decide ((j : Int) < (k : Int)) = true := by simp; omega
          have hjp : j < ps.length := by rw [← HN.out]; exact hlt
          have ck := below_cell hB (HC.out j hjp)
          have pk := (HP.out j hjp).below hB
          have hf := flat_next ps j hjp
          have hfl := flat_le ps (j + 1)
          unfold partV at ck
          obtain ⟨⟨A, c, l⟩, hx⟩ : ∃ x : Part, x = ps[j] := ⟨_, rfl⟩
          rw [← hx] at ck hf pk
          obtain ⟨L', hL'⟩ : ∃ L', L' = (flat (ps.take (j + 1))).length := ⟨_, rfl⟩
          have e1 : L' = L + l.length := by rw [hL', hf, List.length_append, ← hL.out]
          have hLb : L' ≤ S := by rw [hL', HT.out]; exact hfl
          have HL' := hid hL'
          have hE1 := hid e1
          have HF := hid hf
          clear hx hfl hL' e1 hf
          go_wp2_with (refine wpList_appO rfl (.tmp 31) (.tmp 32) rfl w.heap.size hB.size R c2 (flat (ps.take j)) (by rw [← hL.out]; rfl) hR A c l rfl pk (by rw [← hL.out]; have := hE1.out; omega) L' (by rw [← hL.out]; exact hE1.out.symm) ?_)
          intro R' c' w' r' b'
          have hB' := hB.trans b'
          rw [← HF.out] at r'
          clear hB b' hR pk
          go_wp2
          go_roundw
          case rel => exact ⟨j + 1, L', R', c', hlt, by go_num, rfl, HL', r', hB'⟩
          case measure => simp [intOf]; omega
        · obtain rfl : j = k := by omega
          have t3 : decide ((j : Int) < (j : Int)) = false := by simp
          rw [HALL.out] at hR
          have eL : L = S := by rw [hL.out, HALL.out, HT.out]
          subst eL
          clear hL
          go_wp2
          go_ret
          exact ⟨R, c2, rfl, hR, hB⟩
theorem parts_cells (w : World) (ps : List Part) {T : TypeId} : ∀ k (h : k < ps.length), (w.alloc (.cells (ps.map partV).toArray T)).cell? ⟨w.heap.size, k, none⟩ = some (partV ps[k]) := fun k h =>
  cell_at (heap_alloc_new w _) (by simp [h])
theorem concat3 {w : World} {p1 p2 p3 : Part} {L : List UInt8} (hL : p1.2.2 ++ p2.2.2 ++ p3.2.2 = L) (h1 : BSA w p1.1 p1.2.1 p1.2.2) (h2 : BSA w p2.1 p2.2.1 p2.2.2) (h3 : BSA w p3.1 p3.2.1 p3.2.2) (hbig : L.length ≤ 1000000000000) :
    Calls Tryz.prog 159 #[.slice (some ⟨w.heap.size, 0, none⟩) 3 3] (w.alloc (.cells #[partV p1, partV p2, partV p3] 36)) fun e w' => ∃ A' c', e = .returned (.slice A' L.length c') ∧ Row w' w.heap.size A' c' L ∧ Below w.heap.size w w' := by
  have al := below_alloc (Below.refl _ w) (.cells #[partV p1, partV p2, partV p3] 36)
  have hF : flat [p1, p2, p3] = L := by simp [flat, ← hL]
  have HC := concat_any (w := w.alloc (.cells #[partV p1, partV p2, partV p3] 36)) (g := w.heap.size) (ps := [p1, p2, p3]) (parts_cells w [p1, p2, p3])
    (fun k h => match k, h with
      | 0, _ => h1.below al
      | 1, _ => h2.below al
      | 2, _ => h3.below al) (by simp) (by rw [hF]; exact hbig)
  rw [hF] at HC
  refine HC.mono ?_
  rintro e w' ⟨A', c', rfl, r, b⟩
  exact ⟨A', c', rfl, r.lower al.size, below_then al b⟩
theorem concat4 {w : World} {p1 p2 p3 p4 : Part} {L : List UInt8} (hL : p1.2.2 ++ p2.2.2 ++ p3.2.2 ++ p4.2.2 = L) (h1 : BSA w p1.1 p1.2.1 p1.2.2) (h2 : BSA w p2.1 p2.2.1 p2.2.2) (h3 : BSA w p3.1 p3.2.1 p3.2.2) (h4 : BSA w p4.1 p4.2.1 p4.2.2) (hbig : L.length ≤ 1000000000000) :
    Calls Tryz.prog 159 #[.slice (some ⟨w.heap.size, 0, none⟩) 4 4] (w.alloc (.cells #[partV p1, partV p2, partV p3, partV p4] 36)) fun e w' => ∃ A' c', e = .returned (.slice A' L.length c') ∧ Row w' w.heap.size A' c' L ∧ Below w.heap.size w w' := by
  have al := below_alloc (Below.refl _ w) (.cells #[partV p1, partV p2, partV p3, partV p4] 36)
  have hF : flat [p1, p2, p3, p4] = L := by simp [flat, ← hL]
  have HC := concat_any (w := w.alloc (.cells #[partV p1, partV p2, partV p3, partV p4] 36)) (g := w.heap.size) (ps := [p1, p2, p3, p4]) (parts_cells w [p1, p2, p3, p4])
    (fun k h => match k, h with
      | 0, _ => h1.below al
      | 1, _ => h2.below al
      | 2, _ => h3.below al
      | 3, _ => h4.below al) (by simp) (by rw [hF]; exact hbig)
  rw [hF] at HC
  refine HC.mono ?_
  rintro e w' ⟨A', c', rfl, r, b⟩
  exact ⟨A', c', rfl, r.lower al.size, below_then al b⟩
theorem lits_bsa (w : World) (l : List UInt8) (hl : l.length ≤ 1000) : BSA (w.alloc (.cells (bytesV l).toArray 5)) (some ⟨w.heap.size, 0, none⟩) l.length l := by
  refine ⟨Nat.le_refl _, by unfold maxLen; omega, (fun e => by cases e), fun ad e j hj => ?_⟩
  cases e
  rw [add_plain]
  exact cell_at (heap_alloc_new w _) (by rw [List.getElem?_toArray]; exact bytesV_get l j hj)
end Go.Proofs.YtnidgljkbmceaaaGreatDoor
namespace Go.Proofs.YtnidgljkbmceaaaGreatDoor
open Go.RowKit
theorem infoU8 : (Tryz.prog.info? 5).map (fun i => (i.zero, i.size, i.bytes)) = some (some (.int .u8 0), 1, 1) := by kernel_rfl
def dcells (v : Value) (safe calls : Nat) (fails : Bool) : Array Value := #[v, .int .i64 (safe : Int), .int .i64 (calls : Int), .bool fails]
theorem call_no {w : World} {b : Nat} {v : Value} {safe : Nat} {t : TypeId} (hb : w.heap[b]? = some (.cells (dcells v safe 0 true) t (0, 0))) :
    Calls Tryz.prog 110 #[.pointer (some ⟨b, 0, none⟩)] w fun e w' => e = .returned (.bool false) ∧ w = w' := by
  have c2 := cell_at hb (i := 2) (v := .int .i64 0) rfl
  have c3 := cell_at hb (i := 3) (v := .bool true) rfl
  clear hb
  go_enter Tryz.func110, Tryz.ntmps110
  go_wp2
  go_ret
  exact ⟨rfl, rfl⟩
theorem call_plain {w : World} {b : Nat} {v : Value} {safe calls : Nat} {t : TypeId} (hb : w.heap[b]? = some (.cells (dcells v safe calls false) t (0, 0))) :
    Calls Tryz.prog 110 #[.pointer (some ⟨b, 0, none⟩)] w fun e w' => e = .returned (.bool true) ∧ w = w' := by
  have c3 := cell_at hb (i := 3) (v := .bool false) rfl
  clear hb
  go_enter Tryz.func110, Tryz.ntmps110
  go_wp2
  go_ret
  exact ⟨rfl, rfl⟩
theorem call_count {w : World} {b : Nat} {v : Value} {safe calls : Nat} {t : TypeId} (hb : w.heap[b]? = some (.cells (dcells v safe (calls + 1) true) t (0, 0))) (hc : calls + 1 ≤ 9223372036854775807) :
    Calls Tryz.prog 110 #[.pointer (some ⟨b, 0, none⟩)] w fun e w' => e = .returned (.bool true) ∧ w.setCell ⟨b, 2, none⟩ (.int .i64 (calls : Int)) = w' := by
  have c2 := cell_at hb (i := 2) (v := .int .i64 ((calls : Int) + 1)) (by simp [dcells])
  have c3 := cell_at hb (i := 3) (v := .bool true) rfl
  have f2 := free_at hb 2
  clear hb
  have h1 : (((calls : Int) + 1) == 0) = false := by rw [beq_eq_false_iff_ne]; omega
  go_enter Tryz.func110, Tryz.ntmps110
  go_wp2
  go_ret
  exact ⟨rfl, by simp⟩
set_option maxHeartbeats 400000 in
theorem clone_any {w : World} {A : Option Addr} {c : Nat} {l : List UInt8} (h : BSA w A c l) (hbig : l.length ≤ 140737488355328) :
    Calls Tryz.prog 18 #[.slice A l.length c] w fun e w' => ∃ A' c', e = .returned (.slice A' l.length c') ∧ w'.ownsRow 0 5 1 (.slice A' l.length c') l.length (bytesV l) ∧ (∀ k, (Value.slice A' l.length c').ownBlock = some k → w.heap.size ≤ k) ∧ Below w.heap.size w w' := by
  have q22 : ∀ (w : World) (a : Option Addr) (n c n' c' : Nat), (binOp .eql 36 (.slice a n c) (.slice none n' c')).run Tryz.prog w = .ok (.bool a.isNone) w := fun w a n c n' c' => Lib.run_eql_slice_nil w _ _ a n c n' c' Tryz.underlying36
  cases A with
  | none =>
    have hc : c = 0 := h.2.2.1 rfl
    have hl : l = [] := List.eq_nil_of_length_eq_zero (by have := h.1; omega)
    subst hc hl
    go_enter Tryz.func18, Tryz.ntmps18
    go_wp2
    go_ret
    exact ⟨none, 0, rfl, World.ownsRow_nil _ _ _ _, fun k hk => by simp [Value.ownBlock] at hk, Below.refl _ _⟩
  | some ad =>
    go_enter Tryz.func18, Tryz.ntmps18
    go_wp2_with (at_builtin; refine wpList_app8 36 5 Tryz.underlying36 infoU8 rfl (.tmp 5) (.tmp 6) rfl _ [] rfl (own_empty w 5 1) (some ad) c l rfl (h.below ((Below.refl _ _).alloc (Nat.le_refl _) _)) (by simpa using hbig) ?_)
    intro A' c' w' h1 h2 h3 h4
    try simp only [List.length_nil, Nat.zero_add, List.nil_append] at h1 h3 ⊢
    go_wp2
    go_ret
    refine ⟨A', c', rfl, h1, fun k hk => ?_, ?_⟩
    · rcases h3 with h3 | h3
      · rw [h3] at hk; simp [Value.ownBlock] at hk; omega
      · rw [h3] at hk; simp at hk; omega
    · exact ((Below.refl _ _).alloc (Nat.le_refl _) _).grown h2 (by simp) (fun k hk => by simp [Value.ownBlock] at hk; omega)
end Go.Proofs.YtnidgljkbmceaaaGreatDoor
namespace Go.Proofs.YtnidgljkbmceaaaGreatDoor.Dsk
open Go.RowKit PrintLast
theorem bsz (s : ByteArray) : s.data.toList.length = s.size := by simp
def dig (p : List UInt8) : ByteArray := ⟨(sum256 p).toArray⟩
theorem sum_dig {w : World} {A : Option Addr} {c : Nat} {p : List UInt8} {n : Nat} (hn : p.length = n) (hT : Table w) (hp : BSA w A c p) (hb : p.length ≤ 1000000000000) :
    Calls Tryz.prog 31 #[.slice A n c] w fun e w' => e = .returned (.string (dig p)) ∧ Below w.heap.size w w' := by subst hn; exact sum_any hT hp hb
theorem dig_list (p : List UInt8) : (dig p).data.toList = sum256 p := by simp [dig]
theorem dig_size (p : List UInt8) : (dig p).size = 32 := by
  rw [← bsz, dig_list, sum256_len]
def Gave (w : World) (L : List UInt8) (e : Ending) (w' : World) : Prop := ∃ A' c', e = .returned (.slice A' L.length c') ∧ Row w' w.heap.size A' c' L ∧ Below w.heap.size w w'
theorem clone_gave {w : World} {A : Option Addr} {c n : Nat} {x : List UInt8} (h1 : x.length = n) (hx : BSA w A c x) (hbig : x.length ≤ 1000000000000) :
    Calls Tryz.prog 18 #[.slice A n c] w (Gave w x) := by
  subst h1
  refine (clone_any hx (by omega)).mono ?_
  rintro e w' ⟨A', c', rfl, m1, m2, m3⟩
  exact ⟨A', c', rfl, Made.row ⟨m1, m2, m3⟩ rfl, m3⟩
theorem lits_row (w : World) {B : Nat} (hB : B ≤ w.heap.size) (l : List UInt8) (hl : l.length ≤ 1000) : Row (w.alloc (.cells (bytesV l).toArray 5)) B (some ⟨w.heap.size, 0, none⟩) l.length l :=
  World.ownsRow_lit (e := 5) (size := 1) w (bytesV l).toArray l.length hB (by unfold maxLen; omega) (by simp [bytesV])
theorem _root_.Go.Proofs.YtnidgljkbmceaaaGreatDoor.Row.grown {w w' : World} {B c : Nat} {A : Option Addr} {l : List UInt8} {row : Option Nat} (h : Row w B A c l) (hg : w.grownBy w' row) (hn : ∀ k, row = some k → k < B) : Row w' B A c l := by
  refine World.ownsRow.kept h hg ?_
  cases hA : (Value.slice A l.length c).ownBlock with
  | none => exact .inl rfl
  | some k =>
    refine .inr (fun e => ?_)
    have h1 := hn k e.symm
    have h2 := (h.lt k hA).1
    omega
theorem wpList_appS {w : World} {ops : Array Oper} {rest : List Oper} {o : Oper} {a : Act} {Q : Exit → Act → World → Prop} (hgd : o.guard = none) (s x : Operand)
    (ho : o.op = .call { callee := .builtin .append, args := #[s, x], argTypes := #[36, 9] }) (B : Nat) (hB : B ≤ w.heap.size)
    (R : Option Addr) (c : Nat) (l : List UInt8) (hs : a.eval s = .slice R l.length c) (hR : Row w B R c l) (q : ByteArray) (hx : a.eval x = .string q)
    (h47 : l.length + q.size ≤ 140737488355328) (n : Nat) (hn : l.length + q.size = n)
    (h : ∀ R' c' w', Row w' B R' c' (l ++ q.data.toList) → Below B w w' → wpList Tryz.prog ops Q rest (a.put o.dst (.slice R' n c')) w') : wpList Tryz.prog ops Q (o :: rest) a w := by
  subst hn
  obtain ⟨i0, hi, hz0, hz1, hz2⟩ := info_parts infU8'
  refine Lib.wpList_append_own_string w hgd s x 36 9 ho B 5 i0 Tryz.underlying36 Tryz.underlying9 hi hz0 hz1 hz2 _ l.length (bytesV l) hs hR q hx (by unfold maxLen; omega) h47 hB ?_
  intro v' w' k1 k2 _
  have e1 : bytesV l ++ Lib.strCells q = bytesV (l ++ q.data.toList) := by rw [bytesV_append]; rfl
  rw [e1] at k1
  have hform : ∃ A' c', v' = .slice A' (l.length + q.size) c' := by
    rcases k1.2 with ⟨e, h0⟩ | ⟨g', cap', cur', e', _⟩
    · rw [e, h0]; exact ⟨_, _, rfl⟩
    · exact ⟨_, _, e'⟩
  obtain ⟨A', c', rfl⟩ := hform
  exact h A' c' w' (by unfold Row; rw [List.length_append, bsz]; exact k1) ((Below.refl B w).grown k2 hB (fun k hk => (hR.lt k hk).1))
theorem ext4 (X : List UInt8) : ((dig X).extract 0 4).data.toList = (sum256 X).take 4 := by simp [dig]
set_option maxHeartbeats 1600000 in
theorem frame_any {w : World} (hT : Table w) {A : Option Addr} {c : Nat} {p : List UInt8} (hp : BSA w A c p) (hb : p.length ≤ 100000000) :
    Calls Tryz.prog 109 #[.slice A p.length c] w (Gave w (frameB p)) := by
  obtain ⟨N, hN⟩ : ∃ N, N = p.length := ⟨_, rfl⟩
  have nb : numBytes N 4 = [UInt8.ofNat (N / 16777216), UInt8.ofNat (N / 65536), UInt8.ofNat (N / 256), UInt8.ofNat (N / 1)] := rfl
  have f3 : (N : Int) / 16777216 = ((UInt8.ofNat (N / 16777216)).toNat : Int) := by rw [UInt8.toNat_ofNat']; omega
  have f2 : ((N : Int) / 65536) % 256 = ((UInt8.ofNat (N / 65536)).toNat : Int) := byte_div N 16
  have f1 : ((N : Int) / 256) % 256 = ((UInt8.ofNat (N / 256)).toNat : Int) := byte_div N 8
  have f0 : (N : Int) % 256 = ((UInt8.ofNat (N / 1)).toNat : Int) := by simp
  obtain ⟨x3, h3⟩ : ∃ x, x = UInt8.ofNat (N / 16777216) := ⟨_, rfl⟩
  obtain ⟨x2, h2⟩ : ∃ x, x = UInt8.ofNat (N / 65536) := ⟨_, rfl⟩
  obtain ⟨x1, h1⟩ : ∃ x, x = UInt8.ofNat (N / 256) := ⟨_, rfl⟩
  obtain ⟨x0, h0⟩ : ∃ x, x = UInt8.ofNat (N / 1) := ⟨_, rfl⟩
  rw [← h3, ← h2, ← h1, ← h0] at nb
  rw [← h3] at f3
  rw [← h2] at f2
  rw [← h1] at f1
  rw [← h0] at f0
  have q0 := lits_row w (Nat.le_refl _) [x3, x2, x1, x0] (by simp)
  have al1 := below_alloc (Below.refl _ w) (.cells (bytesV [x3, x2, x1, x0]).toArray 5)
  have s1 : (w.alloc (.cells (bytesV [x3, x2, x1, x0]).toArray 5)).heap.size = w.heap.size + 1 := by simp
  have hN4 : N ≤ 100000000 := by omega
  rw [← hN]
  have HN := hid hN
  have HB := hid (show numBytes p.length 4 = [x3, x2, x1, x0] by rw [← hN]; exact nb)
  have hC := hid (clone_gave (n := 4) rfl q0.bsa (by simp))
  have p1 := hp.below al1
  have hTb := hT.below al1
  clear h3 h2 h1 h0 nb hN hb
  go_enter Tryz.func109, Tryz.ntmps109
  go_wp2_with fail
  refine hC.out.mono ?_
  rintro e w1 ⟨A1, c1, rfl, r1, b1⟩
  have bb1 := below_then al1 b1
  have q1 := q0.below b1
  have p2 := p1.below b1
  have hT1 := hTb.below b1
  have b1size := b1.size
  clear hC q0 p1 hTb b1 al1
  rw [s1] at r1
  have s1' : w.heap.size + 1 ≤ w1.heap.size := by rw [← s1]; exact b1size
  clear s1 b1size
  obtain ⟨W0, hW0⟩ : ∃ W, W = w.heap.size := ⟨_, rfl⟩
  have HW0 := hid hW0
  rw [← hW0] at r1 bb1
  have sW := bb1.size
  have sW1 : W0 ≤ w1.heap.size := by rw [hW0]; exact bb1.size
  rw [← hW0] at s1'
  clear hW0
  go_wp2_with (at_builtin; refine wpList_app8 36 5 Tryz.underlying36 infU8' rfl (.tmp 21) (.tmp 22) rfl _ [x3, x2, x1, x0] rfl (q1.lower (Nat.zero_le _)) A c p (by rw [← HN.out]; rfl) p2 (by rw [← HN.out]; simp; omega) ?_)
  intro A2 c2 w2 k1 k2 k3 _
  have bb2 : Below W0 w w2 := bb1.grown k2 sW1 (fun k hk => by simp [Value.ownBlock] at hk; have := HW0.out; omega)
  have r2 : Row w2 (W0 + 1) A1 c1 [x3, x2, x1, x0] := r1.grown k2 (fun k hk => by simp [Value.ownBlock] at hk; have := HW0.out; omega)
  have g2 : Below W0 w1 w2 := (Below.refl W0 w1).grown k2 sW1 (fun k hk => by simp [Value.ownBlock] at hk; have := HW0.out; omega)
  have p3 : BSA w2 A c p := hp.below (by rw [← HW0.out]; exact bb2)
  have X2 := (own_bsa k1).2.2
  have hT2 : Table w2 := hT.below (by rw [← HW0.out]; exact bb2)
  have HS := hid (sum_dig (n := [x3, x2, x1, x0].length + p.length) List.length_append hT2 X2 (by simp; have := HN.out; omega))
  have s2' : w1.heap.size ≤ w2.heap.size := k2.size
  clear k1 k2 k3 q1 r1 p2 hT1 g2 X2
  go_wp2_with fail
  refine HS.out.mono ?_
  rintro e w3 ⟨rfl, b3⟩
  have sW2 : W0 ≤ w2.heap.size := by rw [HW0.out]; exact bb2.size
  have bb3 := bb2.trans (b3.mono sW2)
  have s2 : w1.heap.size ≤ w2.heap.size := s2'
  have sW3 : W0 + 1 ≤ w3.heap.size := by have := b3.size; omega
  have r3 := r2.below b3
  have p4 := p3.below b3
  have dsz : ((dig (x3 :: x2 :: x1 :: x0 :: p)).size : Int) = 32 := by rw [dig_size]; rfl
  have hX := HB.out
  obtain ⟨D, hD⟩ : ∃ D, Hid (D = (dig ([x3, x2, x1, x0] ++ p)).extract 0 4) := ⟨_, hid rfl⟩
  have dl : D.data.toList = check4 p := by rw [hD.out, ext4, ← hX]; rfl
  have ds : D.size = 4 := by rw [← bsz, dl, check4_length]
  have DL := hid dl
  have DS := hid ds
  clear HS r2 b3 p3 bb2 hX dl ds s2 sW2
  go_wp2_with (refine wpList_appS rfl (.tmp 20) (.tmp 25) rfl (W0 + 1) sW3 A1 c1 [x3, x2, x1, x0] rfl r3 D (by rw [hD.out]; rfl) (by rw [DS.out]; simp) 8 (by rw [DS.out]; rfl) ?_)
  intro A4 c4 w4 r4 b4
  have bb4 := bb3.trans (b4.mono (Nat.le_succ W0))
  have p5 := hp.below (show Below w.heap.size w w4 by rw [← HW0.out]; exact bb4)
  have sW4 : W0 + 1 ≤ w4.heap.size := Nat.le_trans sW3 b4.size
  rw [DL.out] at r4
  have l8 : ([x3, x2, x1, x0] ++ check4 p).length = 8 := by rw [List.length_append, check4_length]; rfl
  have L8 := hid l8
  clear r3 p4 bb3 b4 l8 dsz sW3
  go_wp2_with (refine wpList_appO rfl (.tmp 26) (.tmp 27) rfl (W0 + 1) sW4 A4 c4 ([x3, x2, x1, x0] ++ check4 p) (by rw [L8.out]; rfl) r4 A c p (by rw [← HN.out]; rfl) p5 (by rw [L8.out, ← HN.out]; omega) (8 + N) (by rw [L8.out, ← HN.out]) ?_)
  intro A5 c5 w5 r5 b5
  have bb5 := bb4.trans (b5.mono (Nat.le_succ W0))
  have hF : [x3, x2, x1, x0] ++ check4 p ++ p = frameB p := by rw [← HB.out]; rfl
  replace r5 : Row w5 (W0 + 1) A5 c5 (frameB p) := by rw [← hF]; exact r5
  have hl : (frameB p).length = 8 + N := by rw [frameB_length, HN.out]
  have HL := hid hl
  clear r4 p5 bb4 b5 hF hl sW4
  go_wp2
  go_ret
  exact ⟨A5, c5, by rw [HL.out]; rfl, (r5.lower (Nat.le_succ W0)).lower (by rw [HW0.out]; exact Nat.le_refl _), by rw [← HW0.out]; exact bb5⟩
end Go.Proofs.YtnidgljkbmceaaaGreatDoor.Dsk
namespace Go.Proofs.YtnidgljkbmceaaaGreatDoor.Dsk
open Go.RowKit
structure DS where
  p : List UInt8
  safe : Nat
  calls : Nat
  fails : Bool
def DiskAt (w : World) (b : Nat) (r : Option Nat) (s : DS) : Prop :=
  ∃ A c, w.heap[b]? = some (.cells (dcells (.slice A s.p.length c) s.safe s.calls s.fails) 75 (0, 0)) ∧ w.ownsRow 0 5 1 (.slice A s.p.length c) s.p.length (bytesV s.p) ∧ (Value.slice A s.p.length c).ownBlock = r ∧ s.safe ≤ s.p.length ∧ s.calls ≤ 9223372036854775807 ∧ r ≠ some b
theorem own_block {w : World} {base e size n : Nat} {v : Value} {xs : List Value} (h : w.ownsRow base e size v n xs) {k : Nat} (hk : v.ownBlock = some k) : ∃ cur, w.heap[k]? = some (.cells cur e (0, 0)) := by
  rcases h.2 with ⟨rfl, _⟩ | ⟨g, cap, cur, rfl, _, hg, _⟩
  · simp [Value.ownBlock] at hk
  · simp [Value.ownBlock] at hk; subst hk; exact ⟨cur, hg⟩
theorem DiskAt.keeps {S : Nat → Prop} {w w' : World} {b : Nat} {r : Option Nat} {s : DS} (h : DiskAt w b r s) (hk : Keeps S w w') (hb : ¬ S b) (hr : ∀ k, r = some k → ¬ S k) : DiskAt w' b r s := by
  obtain ⟨A, c, h1, h2, h3, h4, h5, h6⟩ := h
  exact ⟨A, c, hk.heap h1 hb, hk.own h2 (fun k e => hr k (h3 ▸ e)), h3, h4, h5, h6⟩
def DS.fail (s : DS) (n : Int) : DS := { s with calls := n.toNat, fails := decide (0 ≤ n) }
theorem append1_any {w : World} {b B0 B1 : Nat} {r : Option Nat} {s : DS} {A2 : Option Addr} {c2 : Nat} {q : List UInt8} {t0 t1 : TypeId} (h : DiskAt w b r s) (h0 : w.heap[B0]? = some (.cells #[.pointer (some ⟨b, 0, none⟩)] t0 (0, 0))) (h1 : w.heap[B1]? = some (.cells #[.slice A2 q.length c2] t1 (0, 0)))
    (hq : BSA w A2 c2 q) (hbig : s.p.length + q.length ≤ 140737488355328) (n0 : B0 ≠ b ∧ r ≠ some B0) (n1 : B1 ≠ b ∧ r ≠ some B1) :
    Calls Tryz.prog 203 #[.pointer (some ⟨B0, 0, none⟩), .pointer (some ⟨B1, 0, none⟩)] w fun e w' => e = .returned (.tuple #[]) ∧ ∃ r', DiskAt w' b r' { s with p := s.p ++ q } ∧ (r' = r ∨ r' = some w.heap.size) ∧ Keeps (fun k => k = b ∨ r = some k) w w' := by
  obtain ⟨A, c, g1, g2, g3, g4, g5, g6⟩ := h
  have fin : ∀ A' c' w1, w1.ownsRow 0 5 1 (.slice A' (s.p.length + q.length) c') (s.p.length + q.length) (bytesV (s.p ++ q)) → w.drew.grownBy w1 (Value.slice A s.p.length c).ownBlock → ((Value.slice A' (s.p.length + q.length) c').ownBlock = (Value.slice A s.p.length c).ownBlock ∨ (Value.slice A' (s.p.length + q.length) c').ownBlock = some w.heap.size) →
      ∃ r', DiskAt (w1.setCell ⟨b, 0, none⟩ (.slice A' (s.p.length + q.length) c')) b r' { s with p := s.p ++ q } ∧ (r' = r ∨ r' = some w.heap.size) ∧ Keeps (fun k => k = b ∨ r = some k) w (w1.setCell ⟨b, 0, none⟩ (.slice A' (s.p.length + q.length) c')) := by
    intro A' c' w1 k1 k2 k3
    rw [g3] at k2 k3
    have e1 := (k2.block b (lt_of_block g1) (fun e => g6 e.symm)).trans g1
    have hb' : (Value.slice A' (s.p.length + q.length) c').ownBlock ≠ some b := by
      rcases k3 with k3 | k3
      · rw [k3]; exact g6
      · rw [k3]; intro e; have := lt_of_block g1; simp at e; omega
    have k1' := ownsRow_setCell_other k1 (a := ⟨b, 0, none⟩) hb' (.slice A' (s.p.length + q.length) c')
    refine ⟨(Value.slice A' (s.p.length + q.length) c').ownBlock, ⟨A', c', ?_, by simpa using k1', by simp, by simp; omega, g5, hb'⟩, k3, ?_⟩
    · rw [heap_set e1]; simp [dcells]
    · exact (((Keeps.refl (fun k => k = b ∨ r = some k) w).drew).grown k2 (fun k e _ => .inr e)).setCell (p := ⟨b, 0, none⟩) (fun _ => .inl rfl) _
  have F := hid fin
  clear fin
  have d0 := cell_of_one h0
  have d1 := cell_of_one h1
  have c0 := cell_at g1 (i := 0) (v := .slice A s.p.length c) rfl
  have f0 := free_at g1 0
  go_enter Tryz.func203, Tryz.ntmps203
  go_wp2
  go_region_law (refine step_app8 36 5 Tryz.underlying36 infoU8 rfl (.tmp 6) (.tmp 7) rfl _ s.p rfl g2 A2 c2 q rfl hq hbig ?_; intro A' c' w1 k1 k2 k3 k4; have e1 : w1.heap[b]? = some (.cells (dcells (.slice A s.p.length c) s.safe s.calls s.fails) 75 (0, 0)) := (k2.block b (lt_of_block g1) (fun e => g6 (by rw [← g3]; exact e.symm))).trans g1; have d2 := cell_at e1 (i := 0) (v := .slice A s.p.length c) rfl; have d3 := free_at e1 0; have e2 : w1.heap[B0]? = some (.cells #[.pointer (some ⟨b, 0, none⟩)] t0 (0, 0)) := (k2.block B0 (lt_of_block h0) (fun e => n0.2 (by rw [← g3]; exact e.symm))).trans h0; have d4 := cell_of_one e2)
  all_goals (go_wp2; go_end0; exact ⟨rfl, F.out _ _ _ ‹_› ‹_› ‹_›⟩)
end Go.Proofs.YtnidgljkbmceaaaGreatDoor.Dsk
namespace Go.Proofs.YtnidgljkbmceaaaGreatDoor.Dsk
open Go.RowKit PrintLast
theorem DiskAt.set {w : World} {b : Nat} {r : Option Nat} {s : DS} (h : DiskAt w b r s) : ∃ A c, w.heap[b]? = some (.cells (dcells (.slice A s.p.length c) s.safe s.calls s.fails) 75 (0, 0)) ∧ BSA w A c s.p ∧
    (∀ k : Nat, k ≤ s.p.length → DiskAt (w.setCell ⟨b, 1, none⟩ (.int .i64 (k : Int))) b r { s with safe := k } ∧ Keeps (fun k => k = b) w (w.setCell ⟨b, 1, none⟩ (.int .i64 (k : Int)))) ∧
    (∀ k : Nat, k ≤ 9223372036854775807 → DiskAt (w.setCell ⟨b, 2, none⟩ (.int .i64 (k : Int))) b r { s with calls := k } ∧ Keeps (fun k => k = b) w (w.setCell ⟨b, 2, none⟩ (.int .i64 (k : Int)))) := by
  obtain ⟨A, c, g1, g2, g3, g4, g5, g6⟩ := h
  have hk : ∀ i u, Keeps (fun k => k = b) w (w.setCell ⟨b, i, none⟩ u) := fun i u => (Keeps.refl (fun k => k = b) w).setCell (p := ⟨b, i, none⟩) (fun _ => rfl) u
  have ho : ∀ i u, (w.setCell ⟨b, i, none⟩ u).ownsRow 0 5 1 (.slice A s.p.length c) s.p.length (bytesV s.p) := fun i u => (hk i u).own g2 (fun k e e' => g6 (by subst e'; rw [← g3]; exact e))
  refine ⟨A, c, g1, (own_bsa g2).2.2, fun k hk' => ⟨⟨A, c, ?_, ho _ _, g3, hk', g5, g6⟩, hk _ _⟩, fun k hk' => ⟨⟨A, c, ?_, ho _ _, g3, g4, hk', g6⟩, hk _ _⟩⟩
  · rw [heap_set g1]; simp [dcells]
  · rw [heap_set g1]; simp [dcells]
set_option maxRecDepth 100000 in
set_option maxHeartbeats 400000 in
theorem sync1_any {w : World} {b B0 : Nat} {r : Option Nat} {s : DS} {t0 : TypeId} (h : DiskAt w b r s) (h0 : w.heap[B0]? = some (.cells #[.pointer (some ⟨b, 0, none⟩)] t0 (0, 0))) :
    Calls Tryz.prog 204 #[.pointer (some ⟨B0, 0, none⟩)] w fun e w' => e = .returned (.tuple #[]) ∧ DiskAt w' b r { s with safe := s.p.length } ∧ Keeps (fun k => k = b) w w' := by
  obtain ⟨A, c, g1, _, g3, _⟩ := (show DiskAt w.drew b r s from h).set
  have F := hid (g3 s.p.length (Nat.le_refl _))
  clear g3
  have d0 := cell_of_one h0
  have c0 := cell_at g1 (i := 0) (v := .slice A s.p.length c) rfl
  have c1 := cell_at g1 (i := 1) (v := .int .i64 (s.safe : Int)) rfl
  have f1 := free_at g1 1
  clear g1 h0 h
  go_enter Tryz.func204, Tryz.ntmps204
  go_wp2
  go_region
  all_goals go_wp2
  all_goals (go_end0; refine ⟨rfl, F.out.1, ?_⟩; exact ⟨rfl, rfl, rfl, F.out.2.size, F.out.2.block⟩)
end Go.Proofs.YtnidgljkbmceaaaGreatDoor.Dsk
namespace Go.Proofs.YtnidgljkbmceaaaGreatDoor.Dsk
open Go.RowKit PrintLast
def DS.ok (s : DS) : Bool := !(s.fails && s.calls == 0)
def DS.called (s : DS) : DS := { s with calls := if s.fails then s.calls - 1 else s.calls }
theorem call_yes {w : World} {b : Nat} {r : Option Nat} {s : DS} (h : DiskAt w b r s) (hy : s.ok = true) :
    Calls Tryz.prog 110 #[.pointer (some ⟨b, 0, none⟩)] w fun e w' => e = .returned (.bool true) ∧ DiskAt w' b r s.called ∧ Keeps (fun k => k = b) w w' := by
  obtain ⟨p, safe, calls, fails⟩ := s
  obtain ⟨A, c, g1, g2, g3, g4⟩ := h.set
  obtain ⟨_, _, _, _, _, _, g5, _⟩ := id h
  cases fails with
  | false => exact (call_plain g1).mono fun e w' ⟨he, hw⟩ => by subst hw; exact ⟨he, h, Keeps.refl _ _⟩
  | true =>
    cases calls with
    | zero => simp [DS.ok] at hy
    | succ n => exact (call_count g1 g5).mono fun e w' ⟨he, hw⟩ => by subst hw; exact ⟨he, g4 n (by simp at g5; omega)⟩
theorem call_nay {w : World} {b : Nat} {r : Option Nat} {s : DS} (h : DiskAt w b r s) (hn : s.ok = false) :
    Calls Tryz.prog 110 #[.pointer (some ⟨b, 0, none⟩)] w fun e w' => e = .returned (.bool false) ∧ w = w' := by
  obtain ⟨p, safe, calls, fails⟩ := s
  obtain ⟨A, c, g1, g2, g3, g4⟩ := h.set
  simp [DS.ok] at hn
  obtain ⟨rfl, rfl⟩ := hn
  exact call_no g1
theorem DiskAt.lt {w : World} {b : Nat} {r : Option Nat} {s : DS} (h : DiskAt w b r s) : b < w.heap.size ∧ ∀ k, r = some k → k < w.heap.size := by
  obtain ⟨A, c, g1, g2, g3, _⟩ := h
  exact ⟨lt_of_block g1, fun k hk => by obtain ⟨cur, hc⟩ := own_block g2 (g3.trans hk); exact lt_of_block hc⟩
set_option maxHeartbeats 400000 in
theorem append_yes {w : World} {b : Nat} {r : Option Nat} {s : DS} {A2 : Option Addr} {c2 : Nat} {q : List UInt8} (h : DiskAt w b r s) (hq : BSA w A2 c2 q) (hbig : s.p.length + q.length ≤ 140737488355328) (hy : s.ok = true) :
    Calls Tryz.prog 155 #[.pointer (some ⟨b, 0, none⟩), .slice A2 q.length c2] w fun e w' => e = .returned (.int .i64 0) ∧ ∃ r', DiskAt w' b r' { s.called with p := s.p ++ q } ∧ (r' = r ∨ ∃ k, r' = some k ∧ w.heap.size ≤ k) ∧ Keeps (fun k => k = b ∨ r = some k) w w' := by
  obtain ⟨hbl, hrl⟩ := h.lt
  have hW : DiskAt ((w.alloc (.cells #[.pointer (some ⟨b, 0, none⟩)] 29)).alloc (.cells #[.slice A2 q.length c2] 36)) b r s := h.keeps (S := fun _ => False) (((Keeps.refl _ w).alloc _).alloc _) (fun e => e) (fun _ _ e => e)
  have hB0 := heap_alloc2_old w (.cells #[.pointer (some ⟨b, 0, none⟩)] 29) (.cells #[.slice A2 q.length c2] 36)
  have hB1 := heap_alloc2_new w (.cells #[.pointer (some ⟨b, 0, none⟩)] 29) (.cells #[.slice A2 q.length c2] 36)
  have hq1 := hq.below (below_alloc (below_alloc (Below.refl _ w) (.cells #[.pointer (some ⟨b, 0, none⟩)] 29)) (.cells #[.slice A2 q.length c2] 36))
  have hq' : ∀ ad, A2 = some ad → 0 < q.length → ¬ ad.block = b := by
    intro ad e hl eb
    obtain ⟨A, c, g1, _⟩ := h
    have h0 := hq.2.2.2 ad e 0 hl
    rw [show ad.add 0 = ad from rfl] at h0
    obtain ⟨bb, off, sp⟩ := ad
    subst eb
    simp only [World.cell?, g1] at h0
    split at h0
    · cases h0
    · match off, h0 with
      | 0, h0 => simp [dcells] at h0
      | 1, h0 => simp [dcells] at h0
      | 2, h0 => simp [dcells] at h0
      | 3, h0 => simp [dcells] at h0
      | n + 4, h0 => simp [dcells] at h0
  have C := hid (call_yes hW hy)
  go_enter Tryz.func155, Tryz.ntmps155
  go_wp2_with (first | (go_at_call 110; refine C.out.mono ?_; rintro e w1 ⟨rfl, k1, k2⟩) | (go_at_call 203; refine (append1_any (B0 := w.heap.size) (B1 := w.heap.size + 1) k1 (k2.heap hB0 (by omega)) (k2.heap hB1 (by omega)) (hq1.keeps' k2 hq') hbig ⟨by omega, fun e => by have := hrl _ e; omega⟩ ⟨by omega, fun e => by have := hrl _ e; omega⟩).mono ?_; rintro e w2 ⟨rfl, r', m1, m2, m3⟩) | go_in)
  go_ret
  refine ⟨rfl, r', m1, ?_, ?_⟩
  · rcases m2 with m2 | m2
    · exact .inl m2
    · exact .inr ⟨_, m2, by have := k2.size; simp at this; omega⟩
  · exact ((((Keeps.refl _ w).alloc _).alloc _).then k2 (fun k _ e => .inl e)).then m3 (fun k _ e => e)
theorem append_nay {w : World} {b : Nat} {r : Option Nat} {s : DS} {A2 : Option Addr} {n2 c2 : Nat} (h : DiskAt w b r s) (hn : s.ok = false) :
    Calls Tryz.prog 155 #[.pointer (some ⟨b, 0, none⟩), .slice A2 n2 c2] w fun e w' => e = .returned (.int .i64 9) ∧ Below w.heap.size w w' := by
  have hW : DiskAt ((w.alloc (.cells #[.pointer (some ⟨b, 0, none⟩)] 29)).alloc (.cells #[.slice A2 n2 c2] 36)) b r s := h.keeps (S := fun _ => False) (((Keeps.refl _ w).alloc _).alloc _) (fun e => e) (fun _ _ e => e)
  have C := hid (call_nay hW hn)
  go_enter Tryz.func155, Tryz.ntmps155
  go_wp2_with (first | (go_at_call 110; refine C.out.mono ?_; rintro e w1 ⟨rfl, rfl⟩) | go_in)
  go_ret
  exact ⟨rfl, below_alloc (below_alloc (Below.refl _ w) _) _⟩
theorem sync_yes {w : World} {b : Nat} {r : Option Nat} {s : DS} (h : DiskAt w b r s) (hy : s.ok = true) :
    Calls Tryz.prog 158 #[.pointer (some ⟨b, 0, none⟩)] w fun e w' => e = .returned (.int .i64 0) ∧ DiskAt w' b r { s.called with safe := s.p.length } ∧ Keeps (fun k => k = b) w w' := by
  obtain ⟨hbl, hrl⟩ := h.lt
  have hW : DiskAt (w.alloc (.cells #[.pointer (some ⟨b, 0, none⟩)] 29)) b r s := h.keeps (S := fun _ => False) ((Keeps.refl _ w).alloc _) (fun e => e) (fun _ _ e => e)
  have hB0 := heap_alloc_new w (.cells #[.pointer (some ⟨b, 0, none⟩)] 29)
  have C := hid (call_yes hW hy)
  go_enter Tryz.func158, Tryz.ntmps158
  go_wp2_with (first | (go_at_call 110; refine C.out.mono ?_; rintro e w1 ⟨rfl, k1, k2⟩) | (go_at_call 204; refine (sync1_any (B0 := w.heap.size) k1 (k2.heap hB0 (by omega))).mono ?_; rintro e w2 ⟨rfl, m1, m3⟩) | go_in)
  go_ret
  exact ⟨rfl, m1, (((Keeps.refl _ w).alloc _).then k2 (fun k _ e => e)).then m3 (fun k _ e => e)⟩
theorem sync_nay {w : World} {b : Nat} {r : Option Nat} {s : DS} (h : DiskAt w b r s) (hn : s.ok = false) :
    Calls Tryz.prog 158 #[.pointer (some ⟨b, 0, none⟩)] w fun e w' => e = .returned (.int .i64 9) ∧ Below w.heap.size w w' := by
  have hW : DiskAt (w.alloc (.cells #[.pointer (some ⟨b, 0, none⟩)] 29)) b r s := h.keeps (S := fun _ => False) ((Keeps.refl _ w).alloc _) (fun e => e) (fun _ _ e => e)
  have C := hid (call_nay hW hn)
  go_enter Tryz.func158, Tryz.ntmps158
  go_wp2_with (first | (go_at_call 110; refine C.out.mono ?_; rintro e w1 ⟨rfl, rfl⟩) | go_in)
  go_ret
  exact ⟨rfl, below_alloc (Below.refl _ w) _⟩
end Go.Proofs.YtnidgljkbmceaaaGreatDoor.Dsk
namespace Go.Proofs.YtnidgljkbmceaaaGreatDoor.Dsk
open Go.RowKit PrintLast
def DS.errno (s : DS) : Int := if s.ok then 0 else 9
def DS.append (s : DS) (q : List UInt8) : DS := if s.ok then { s.called with p := s.p ++ q } else s
def DS.sync (s : DS) : DS := if s.ok then { s.called with safe := s.p.length } else s
def Foot (b : Nat) (r : Option Nat) (k : Nat) : Prop := k = b ∨ r = some k
def Next (w : World) (r r' : Option Nat) : Prop := ∀ k, r' = some k → r = some k ∨ w.heap.size ≤ k
theorem append_at {w : World} {b : Nat} {r : Option Nat} {s : DS} {A2 : Option Addr} {c2 : Nat} {q : List UInt8} (h : DiskAt w b r s) (hq : BSA w A2 c2 q) (hbig : s.p.length + q.length ≤ 140737488355328) :
    Calls Tryz.prog 155 #[.pointer (some ⟨b, 0, none⟩), .slice A2 q.length c2] w fun e w' => e = .returned (.int .i64 s.errno) ∧ ∃ r', DiskAt w' b r' (s.append q) ∧ Next w r r' ∧ Keeps (Foot b r) w w' := by
  cases hy : s.ok with
  | true =>
    refine (append_yes h hq hbig hy).mono ?_
    rintro e w' ⟨rfl, r', h1, h2, h3⟩
    refine ⟨by simp [DS.errno, hy], r', by simpa [DS.append, hy] using h1, fun k hk => ?_, h3⟩
    rcases h2 with rfl | ⟨k', rfl, h2⟩
    · exact .inl hk
    · cases hk; exact .inr h2
  | false =>
    refine (append_nay h hy).mono ?_
    rintro e w' ⟨rfl, h1⟩
    have hk : Keeps (Foot b r) w w' := Keeps.of_below h1
    exact ⟨by simp [DS.errno, hy], r, by simpa [DS.append, hy] using h.keeps (Keeps.of_below (S := fun _ => False) h1) (fun e => e) (fun _ _ e => e), fun k hk => .inl hk, hk⟩
theorem sync_at {w : World} {b : Nat} {r : Option Nat} {s : DS} (h : DiskAt w b r s) :
    Calls Tryz.prog 158 #[.pointer (some ⟨b, 0, none⟩)] w fun e w' => e = .returned (.int .i64 s.errno) ∧ ∃ r', DiskAt w' b r' s.sync ∧ Next w r r' ∧ Keeps (Foot b r) w w' := by
  cases hy : s.ok with
  | true =>
    refine (sync_yes h hy).mono ?_
    rintro e w' ⟨rfl, h1, h3⟩
    exact ⟨by simp [DS.errno, hy], r, by simpa [DS.sync, hy] using h1, fun k hk => .inl hk, h3.mono fun k _ e => .inl e⟩
  | false =>
    refine (sync_nay h hy).mono ?_
    rintro e w' ⟨rfl, h1⟩
    exact ⟨by simp [DS.errno, hy], r, by simpa [DS.sync, hy] using h.keeps (Keeps.of_below (S := fun _ => False) h1) (fun e => e) (fun _ _ e => e), fun k hk => .inl hk, Keeps.of_below h1⟩
end Go.Proofs.YtnidgljkbmceaaaGreatDoor.Dsk
namespace Go.Proofs.YtnidgljkbmceaaaGreatDoor.Dsk
open Go.RowKit PrintLast
def logO (b n : Nat) : Obj := .cells #[.pointer (some ⟨b, 0, none⟩), .int .i64 (n : Int)] 101
def LogAt (w : World) (b : Nat) (r : Option Nat) (s : DS) (lg n : Nat) : Prop := DiskAt w b r s ∧ w.heap[lg]? = some (logO b n) ∧ lg ≠ b ∧ r ≠ some lg
theorem LogAt.keeps {S : Nat → Prop} {w w' : World} {b : Nat} {r : Option Nat} {s : DS} {lg n : Nat} (h : LogAt w b r s lg n) (hk : Keeps S w w') (hb : ¬ S b) (hr : ∀ k, r = some k → ¬ S k) (hl : ¬ S lg) : LogAt w' b r s lg n :=
  ⟨h.1.keeps hk hb hr, hk.heap h.2.1 hl, h.2.2⟩
theorem LogAt.below {w w' : World} {b : Nat} {r : Option Nat} {s : DS} {lg n : Nat} (h : LogAt w b r s lg n) (hb : Below w.heap.size w w') : LogAt w' b r s lg n :=
  h.keeps (Keeps.of_below (S := fun _ => False) hb) (fun e => e) (fun _ _ e => e) (fun e => e)
def FootL (b : Nat) (r : Option Nat) (lg : Nat) (k : Nat) : Prop := Foot b r k ∨ k = lg
set_option maxRecDepth 100000 in
set_option maxHeartbeats 3200000 in
theorem append_log {w : World} (hT : Table w) {b : Nat} {r : Option Nat} {s : DS} {lg n : Nat} (h : LogAt w b r s lg n) {A : Option Addr} {c : Nat} {p : List UInt8} (hp : BSA w A c p) (hb : p.length ≤ 1000000) (hs : s.p.length ≤ 100000000) (hn : n ≤ 100000000) :
    Calls Tryz.prog 87 #[.pointer (some ⟨lg, 0, none⟩), .slice A p.length c] w fun e w' => e = .returned (.int .i64 s.errno) ∧ ∃ r1, LogAt w' b r1 (s.append (frameB p)) lg (if s.ok then n + (8 + p.length) else n) ∧ Next w r r1 ∧ Keeps (FootL b r lg) w w' := by
  obtain ⟨F, hF⟩ : ∃ F, Hid (F = frameB p) := ⟨_, hid rfl⟩
  have lF : Hid (F.length = 8 + p.length) := hid (by rw [hF.out, frameB_length])
  have t1 : decide ((1048576 : Int) < (p.length : Int)) = false := by simp; omega
  have H := hid (frame_any hT hp (by omega))
  obtain ⟨m, hm⟩ : ∃ m, m = p.length := ⟨_, rfl⟩
  have HM := hid hm
  rw [← hF.out, ← hm] at H
  rw [← hF.out, ← hm]
  rw [← hm] at t1 hb
  have L0 := h
  obtain ⟨RR, hRR⟩ : ∃ R, Hid (R = if s.ok then n + (8 + m) else n) := ⟨_, hid rfl⟩
  rw [← hRR.out]
  clear hp hT hm h
  go_enter Tryz.func87, Tryz.ntmps87
  go_wp2_with fail
  refine H.out.mono ?_
  rintro e w1 ⟨A1, c1, rfl, r1, b1⟩
  obtain ⟨d1, g1, g2, g3⟩ := L0.below b1
  have c0 := cell_at g1 (i := 0) (v := .pointer (some ⟨b, 0, none⟩)) rfl
  have H := hid (append_at d1 r1.bsa (by rw [lF.out, ← HM.out]; omega))
  have k1 : Keeps (FootL b r lg) w w1 := Keeps.of_below b1
  have sw := b1.size
  clear d1 r1 b1
  go_wp2_with fail
  refine H.out.mono ?_
  rintro e w2 ⟨rfl, r2, d2, n2, k2⟩
  have hlg : ¬ Foot b r lg := fun e => by
    rcases e with e | e
    · exact g2 e
    · exact g3 e
  have g4 := k2.heap g1 hlg
  have r2lg : r2 ≠ some lg := fun e => by
    rcases n2 lg e with e | e
    · exact g3 e
    · have := lt_of_block g1; omega
  have k3 : Keeps (FootL b r lg) w w2 := k1.then k2 (fun k _ e => .inl e)
  have n3 : Next w r r2 := fun k hk => by
    rcases n2 k hk with e | e
    · exact .inl e
    · exact .inr (by omega)
  have c1' := cell_at g4 (i := 1) (v := .int .i64 (n : Int)) rfl
  have f1' := free_at g4 1
  cases hok : s.ok
  · have he : s.errno = 9 := by simp [DS.errno, hok]
    rw [he]
    have HEE := hid he
    clear he
    have X := hid (show LogAt w2 b r2 (s.append F) lg RR from ⟨d2, by rw [hRR.out, hok]; exact g4, g2, r2lg⟩)
    clear hok
    clear d2 k2 n2 g1 g4 c0 H k1
    go_wp2
    go_ret
    exact ⟨by rw [HEE.out]; rfl, r2, X.out, n3, k3⟩
  · have he : s.errno = 0 := by simp [DS.errno, hok]
    rw [he]
    have HEE := hid he
    clear he
    have e1 : (n : Int) + ((F.length : Nat) : Int) = ((n + (8 + m) : Nat) : Int) := by rw [lF.out, ← HM.out]; omega
    have KK : Keeps (fun k => k = lg) w2 (w2.setCell ⟨lg, 1, none⟩ (.int .i64 ((n + (8 + m) : Nat) : Int))) := (Keeps.refl (fun k => k = lg) w2).setCell (p := ⟨lg, 1, none⟩) (fun _ => rfl) _
    have X := hid (show LogAt (w2.setCell ⟨lg, 1, none⟩ (.int .i64 ((n + (8 + m) : Nat) : Int))) b r2 (s.append F) lg (n + (8 + m)) from
      ⟨d2.keeps KK (fun e => g2 e.symm) (fun k hk e => r2lg (by rw [hk, e])), by rw [heap_set g4]; rfl, g2, r2lg⟩)
    have K4 := hid (show Keeps (FootL b r lg) w (w2.setCell ⟨lg, 1, none⟩ (.int .i64 ((n + (8 + m) : Nat) : Int))) from k3.then KK (fun k _ e => .inr e))
    have RN := hid (show RR = n + (8 + m) by rw [hRR.out, hok]; rfl)
    clear hok
    obtain ⟨N, hN⟩ : ∃ N, N = n + (8 + m) := ⟨_, rfl⟩
    rw [← hN] at e1 X K4
    have HNN := hid hN
    have hNb : N ≤ 1000000000 := by omega
    clear d2 k2 n2 g1 g4 c0 H k1 KK hN
    go_wp2
    go_ret
    exact ⟨by rw [HEE.out]; rfl, r2, by rw [RN.out, ← HNN.out]; exact X.out, n3, K4.out⟩
set_option maxRecDepth 100000 in
theorem sync_log {w : World} {b : Nat} {r : Option Nat} {s : DS} {lg n : Nat} (h : LogAt w b r s lg n) :
    Calls Tryz.prog 90 #[.pointer (some ⟨lg, 0, none⟩)] w fun e w' => e = .returned (.int .i64 s.errno) ∧ ∃ r1, LogAt w' b r1 s.sync lg n ∧ Next w r r1 ∧ Keeps (Foot b r) w w' := by
  obtain ⟨d1, g1, g2, g3⟩ := h
  have c0 := cell_at g1 (i := 0) (v := .pointer (some ⟨b, 0, none⟩)) rfl
  have H := hid (sync_at d1)
  clear d1
  go_enter Tryz.func90, Tryz.ntmps90
  go_wp2_with fail
  refine H.out.mono ?_
  rintro e w2 ⟨rfl, r2, d2, n2, k2⟩
  have hlg : ¬ Foot b r lg := fun e => by
    rcases e with e | e
    · exact g2 e
    · exact g3 e
  have g4 := k2.heap g1 hlg
  have r2lg : r2 ≠ some lg := fun e => by
    rcases n2 lg e with e | e
    · exact g3 e
    · have := lt_of_block g1; omega
  go_wp2
  go_ret
  exact ⟨rfl, r2, ⟨d2, g4, g2, r2lg⟩, n2, k2⟩
end Go.Proofs.YtnidgljkbmceaaaGreatDoor.Dsk
