import Derived.Test.YtmbgfjcmdolggaaDoorMA
import Derived.Lib.AppendZeros
import Derived.Laws.IdiomStrings
import Derived.Test.YtmbgfjcmdolggaaDoorMC
import Derived.Test.YtmbgfjcmdolggaaDoorChecked
import Derived.ProofKit
import Derived.OpenShut
import Derived.Deep.Slices
import Derived.Deep.Strs
import Derived.Outline
import Derived.WalkSpells
import Derived.WalkLawsBesides
import Derived.Lib.AppendStr
import Derived.Laws.BitsAllLaws
import Derived.Laws.BytesString
import Derived.Deep.OwnRows
import Derived.Laws.OwnMore
set_option linter.unusedVariables false
set_option linter.unusedSimpArgs false
/- Bytes of a string; append of bytes that may be none; the walks of slices.Grow and slices.Concat. -/
namespace Go.Proofs.YtmbgfjcmdolggaaDoor
open Go.RowKit PrintLast

/-- What the conversion of a string to bytes leaves. -/
theorem str_bsa (w : World) (s : ByteArray) (hs : s.size ≤ maxLen) {fr : Nat × Nat} : BSA (w.drew.alloc (.cells (bytesRow s (grownCap w s.size 0 5)) 5 fr)) (some ⟨w.heap.size, 0, none⟩) (grownCap w s.size 0 5) s.data.toList := by
  have hl : s.data.toList.length = s.size := by simp
  refine ⟨by rw [hl]; exact grownCap_ge w s.size 0 5, grownCap_le_maxLen w s.size 0 5 hs, (fun e => by cases e), fun ad e j hj => ?_⟩
  cases e
  rw [add_plain]
  have hj' : j < s.data.size := by simpa using hj
  exact cell_at (heap_alloc_new w.drew _) (bytesRow_at s _ j hj')

/-- '[]byte(s)' in the walk. -/
theorem wpList_conv {w : World} {ops : Array Oper} {rest : List Oper} {o : Oper} {a : Act} {Q : Exit → Act → World → Prop} (hgd : o.guard = none) (x : Operand)
    (ho : o.op = .convert 9 23 x) (s : ByteArray) (hx : a.eval x = .string s) (hs : s.size ≤ maxLen)
    (h : ∀ g c w', w.heap.size ≤ g → BSA w' (some ⟨g, 0, none⟩) c s.data.toList → Below w.heap.size w w' → wpList Tryd.prog ops Q rest (a.put o.dst (.slice (some ⟨g, 0, none⟩) s.size c)) w') : wpList Tryd.prog ops Q (o :: rest) a w := by
  refine wpList_plain hgd fun K hK' => ?_
  have hrun := run_bytes_of_string (P := Tryd.prog) w 9 23 5 s Tryd.underlying9 Tryd.underlying23 Tryd.underlying5
  unfold Oper.wp
  simp [execOp, ho, hx, hrun, Result.andThen]
  exact hK' _ _ (h w.heap.size _ _ (Nat.le_refl _) (str_bsa w s hs) ((Below.refl w.heap.size w).drew.alloc (Nat.le_refl _) _))

theorem Row.raise {w : World} {A : Option Addr} {n c B : Nat} {l : List UInt8} (h : w.ownsRow 0 5 1 (.slice A n c) l.length (bytesV l)) (hn : n = l.length) (hB : ∀ k, (Value.slice A n c).ownBlock = some k → B ≤ k) : Row w B A c l := by
  subst hn
  refine ⟨h.1, ?_⟩
  rcases h.2 with k | ⟨g, cap, cur, e, hb, r⟩
  · exact .inl k
  · exact .inr ⟨g, cap, cur, e, hB g (by rw [e]; rfl), r⟩

/-- 'append' of bytes that are read, or none, to a row of the call's own. -/
theorem wpList_appO {w : World} {ops : Array Oper} {rest : List Oper} {o : Oper} {a : Act} {Q : Exit → Act → World → Prop} (hgd : o.guard = none) (s x : Operand)
    (ho : o.op = .call { callee := .builtin .append, args := #[s, x], argTypes := #[23, 23] }) (B : Nat) (hB : B ≤ w.heap.size)
    (R : Option Addr) (c : Nat) (l : List UInt8) (hs : a.eval s = .slice R l.length c) (hR : Row w B R c l) (A : Option Addr) (c2 : Nat) (q : List UInt8) (hx : a.eval x = .slice A q.length c2) (hb : BSA w A c2 q)
    (h47 : l.length + q.length ≤ 140737488355328) (n : Nat) (hn : l.length + q.length = n)
    (h : ∀ R' c' w', Row w' B R' c' (l ++ q) → Below B w w' → wpList Tryd.prog ops Q rest (a.put o.dst (.slice R' n c')) w') : wpList Tryd.prog ops Q (o :: rest) a w := by
  subst hn
  refine wpList_app8 23 5 Tryd.underlying23 infU8' hgd s x ho _ l hs (hR.lower (Nat.zero_le _)) A c2 q hx hb h47 ?_
  intro A' c' w' k1 k2 k3 _
  have hfr : ∀ k, (Value.slice R l.length c).ownBlock = some k → B ≤ k := fun k hk => (hR.lt k hk).1
  refine h A' c' w' (Row.raise (by simpa using k1) (by simp) (fun k hk => ?_)) ((Below.refl B w).grown k2 hB hfr)
  rcases k3 with e | e
  · rw [e] at hk; exact hfr k hk
  · rw [e] at hk; simp at hk; omega

set_option maxHeartbeats 1600000 in
theorem grow_any {w : World} {n : Nat} (hn : n ≤ 140737488355328) :
    Calls Tryd.prog 83 #[.slice none 0 0, .int .i64 (n : Int)] w fun e w' => ∃ A' c', e = .returned (.slice A' 0 c') ∧ Row w' w.heap.size A' c' [] ∧ Below w.heap.size w w' := by
  have t0 : decide ((n : Int) < 0) = false := by simp
  by_cases h0 : 0 < n
  · have t1 : decide ((0 : Int) < (n : Int)) = true := by simp; omega
    go_enter Tryd.func83, Tryd.ntmps83
    have eb : Tryd.t5.bytes = 1 := rfl
    have x1 : ¬ ((281474976710656 : Int) < (n : Int) * (Tryd.t5.bytes : Int)) := by rw [eb]; omega
    have x2 : ¬ (281474976710656 < Builtin.nextslicecap n 0 * Tryd.t5.bytes) := by rw [eb, nextslicecap_zero h0]; omega
    clear eb
    go_wp2
    all_goals (try (exfalso; first | exact x1 ‹_› | exact x2 ‹_› | omega))
    go_ret
    have hge := grownCap_ge w n 0 5
    have hcm := grownCap_le_maxLen w n 0 5 (by unfold maxLen; omega)
    refine ⟨some ⟨w.heap.size, 0, none⟩, grownCap w n 0 5, rfl, ?_, ((Below.refl _ _).alloc (Nat.le_refl _) _).drew⟩
    exact World.ownsRow_made w _ _ (Nat.le_refl _) hcm (by simp only [Array.size_append, size_zeroCells, List.size_toArray, List.length_cons, List.length_nil]; show n * (0 + 1) + (grownCap w n 0 5 - n) * (0 + 1) = _; omega)
  · have e0 : n = 0 := by omega
    subst e0
    go_enter Tryd.func83, Tryd.ntmps83
    go_wp2
    go_ret
    exact ⟨none, 0, rfl, Row.nil _ _, Below.refl _ _⟩

/-- Parts that are put one behind the other. -/
abbrev Part := Option Addr × Nat × List UInt8
def partV (x : Part) : Value := .slice x.1 x.2.2.length x.2.1
def flat (ps : List Part) : List UInt8 := ps.flatMap (·.2.2)
theorem flat_next (ps : List Part) (k : Nat) (h : k < ps.length) : flat (ps.take (k + 1)) = flat (ps.take k) ++ ps[k].2.2 := by
  unfold flat
  rw [List.take_succ_eq_append_getElem h, List.flatMap_append]
  simp
theorem flat_le (ps : List Part) (k : Nat) : (flat (ps.take k)).length ≤ (flat ps).length := by
  have : flat ps = flat (ps.take k) ++ flat (ps.drop k) := by
    unfold flat
    rw [← List.flatMap_append, List.take_append_drop]
  rw [this, List.length_append]
  omega

set_option maxHeartbeats 1600000 in
theorem concat_any {w : World} {g : Nat} {ps : List Part} (hc : ∀ k (h : k < ps.length), w.cell? ⟨g, k, none⟩ = some (partV ps[k])) (hp : ∀ k (h : k < ps.length), BSA w ps[k].1 ps[k].2.1 ps[k].2.2) (hps : ps.length ≤ 1000) (hbig : (flat ps).length ≤ 1000000000000) :
    Calls Tryd.prog 77 #[.slice (some ⟨g, 0, none⟩) ps.length ps.length] w fun e w' => ∃ A' c', e = .returned (.slice A' (flat ps).length c') ∧ Row w' w.heap.size A' c' (flat ps) ∧ Below w.heap.size w w' := by
  obtain ⟨n, hn⟩ : ∃ n, n = ps.length := ⟨_, rfl⟩
  have HC := hid hc
  have HP := hid hp
  have HN := hid hn
  rw [← hn] at hps ⊢
  obtain ⟨T, hT⟩ : ∃ T, T = (flat ps).length := ⟨_, rfl⟩
  have HT := hid hT
  have hTb : T ≤ 1000000000000 := by omega
  have hall : flat (ps.take n) = flat ps := by rw [hn, List.take_length]
  have HALL := hid hall
  rw [← hT]
  clear hc hp hn hT hbig hall
  have b0 := Below.refl w.heap.size w
  go_enter Tryd.func77, Tryd.ntmps77
  go_wp2
  go_loopw [3, 11] (fun v i wr => ∃ k S : Nat, k ≤ n ∧ i = .int .i64 k ∧ v = .int .i64 S ∧ Hid (S = (flat (ps.take k)).length) ∧ S ≤ T ∧ Below w.heap.size w wr) (fun _ i _ => n - (intOf i).toNat)
  case atStart => exact ⟨0, 0, Nat.zero_le _, rfl, rfl, hid (by simp [flat]), Nat.zero_le _, b0⟩
  case round =>
    clear b0
    obtain ⟨k, S, hk, rfl, rfl, hS, hST, hB⟩ := hrel
    by_cases hlt : k < n
    · have t1 : decide ((k : Int) < (n : Int)) = true := by simp; omega
      have hkp : k < ps.length := by rw [← HN.out]; exact hlt
      have ck := below_cell hB (HC.out k hkp)
      have hf := flat_next ps k hkp
      have hfl := flat_le ps (k + 1)
      unfold partV at ck
      obtain ⟨⟨A, c, l⟩, hx⟩ : ∃ x : Part, x = ps[k] := ⟨_, rfl⟩
      rw [← hx] at ck hf
      obtain ⟨m, hm⟩ : ∃ m, m = l.length := ⟨_, rfl⟩
      obtain ⟨S', hS'⟩ : ∃ S', S' = (flat (ps.take (k + 1))).length := ⟨_, rfl⟩
      have e1 : (S : Int) + (m : Int) = (S' : Int) := by rw [hS', hf, List.length_append, ← hS.out, hm]; simp
      have hST' : S' ≤ T := by rw [hS', HT.out]; exact hfl
      have t2 : decide ((S' : Int) < 0) = false := by simp
      have HS' := hid hS'
      simp only [← hm] at ck
      clear hf hfl hx hS hm hS'
      go_wp2
      go_roundw
      case rel => exact ⟨k + 1, S', hlt, by go_num, rfl, HS', hST', hB⟩
      case measure => simp [intOf]; omega
    · obtain rfl : k = n := by omega
      have t1 : decide ((k : Int) < (k : Int)) = false := by simp
      have eS : S = T := by rw [hS.out, HALL.out, HT.out]
      subst eS
      have sB := hB.size
      clear hST hS
      go_wp2_with fail
      refine (grow_any (by omega)).mono ?_
      rintro e w1 ⟨A1, c1, rfl, r1, b1⟩
      have hB1 := hB.trans (b1.mono sB)
      have r1' := r1.lower sB
      clear b1 hB r1 sB
      go_wp2
      go_loopw [6, 27] (fun v i wr => ∃ (j L : Nat) (R : Option Addr) (c : Nat), j ≤ k ∧ i = .int .i64 j ∧ v = .slice R L c ∧ Hid (L = (flat (ps.take j)).length) ∧ Row wr w.heap.size R c (flat (ps.take j)) ∧ Below w.heap.size w wr) (fun _ i _ => k - (intOf i).toNat)
      case atStart => exact ⟨0, 0, A1, c1, Nat.zero_le _, rfl, rfl, hid (by simp [flat]), by simpa [flat] using r1', hB1⟩
      case round =>
        clear r1' hB1
        obtain ⟨j, L, R, c2, hj, rfl, rfl, hL, hR, hB⟩ := hrel
        by_cases hlt : j < k
        · have t3 : decide ((j : Int) < (k : Int)) = true := by simp; omega
          have hjp : j < ps.length := by rw [← HN.out]; exact hlt
          have ck := below_cell hB (HC.out j hjp)
          have pk := (HP.out j hjp).below hB
          have hf := flat_next ps j hjp
          have hfl := flat_le ps (j + 1)
          unfold partV at ck
          obtain ⟨⟨A, c, l⟩, hx⟩ : ∃ x : Part, x = ps[j] := ⟨_, rfl⟩
          rw [← hx] at ck hf pk
          obtain ⟨L', hL'⟩ : ∃ L', L' = (flat (ps.take (j + 1))).length := ⟨_, rfl⟩
          have e1 : L' = L + l.length := by rw [hL', hf, List.length_append, ← hL.out]
          have hLb : L' ≤ S := by rw [hL', HT.out]; exact hfl
          have HL' := hid hL'
          have hE1 := hid e1
          have HF := hid hf
          clear hx hfl hL' e1 hf
          go_wp2_with (refine wpList_appO rfl (.tmp 31) (.tmp 32) rfl w.heap.size hB.size R c2 (flat (ps.take j)) (by rw [← hL.out]; rfl) hR A c l rfl pk (by rw [← hL.out]; have := hE1.out; omega) L' (by rw [← hL.out]; exact hE1.out.symm) ?_)
          intro R' c' w' r' b'
          have hB' := hB.trans b'
          rw [← HF.out] at r'
          clear hB b' hR pk
          go_wp2
          go_roundw
          case rel => exact ⟨j + 1, L', R', c', hlt, by go_num, rfl, HL', r', hB'⟩
          case measure => simp [intOf]; omega
        · obtain rfl : j = k := by omega
          have t3 : decide ((j : Int) < (j : Int)) = false := by simp
          rw [HALL.out] at hR
          have eL : L = S := by rw [hL.out, HALL.out, HT.out]
          subst eL
          clear hL
          go_wp2
          go_ret
          exact ⟨R, c2, rfl, hR, hB⟩

/-- The block of parts, as the walk lays it. -/
theorem parts_cells (w : World) (ps : List Part) {T : TypeId} : ∀ k (h : k < ps.length), (w.alloc (.cells (ps.map partV).toArray T)).cell? ⟨w.heap.size, k, none⟩ = some (partV ps[k]) := fun k h =>
  cell_at (heap_alloc_new w _) (by simp [h])
theorem concat3 {w : World} {p1 p2 p3 : Part} {L : List UInt8} (hL : p1.2.2 ++ p2.2.2 ++ p3.2.2 = L) (h1 : BSA w p1.1 p1.2.1 p1.2.2) (h2 : BSA w p2.1 p2.2.1 p2.2.2) (h3 : BSA w p3.1 p3.2.1 p3.2.2) (hbig : L.length ≤ 1000000000000) :
    Calls Tryd.prog 77 #[.slice (some ⟨w.heap.size, 0, none⟩) 3 3] (w.alloc (.cells #[partV p1, partV p2, partV p3] 23)) fun e w' => ∃ A' c', e = .returned (.slice A' L.length c') ∧ Row w' w.heap.size A' c' L ∧ Below w.heap.size w w' := by
  have al := below_alloc (Below.refl _ w) (.cells #[partV p1, partV p2, partV p3] 23)
  have hF : flat [p1, p2, p3] = L := by simp [flat, ← hL]
  have HC := concat_any (w := w.alloc (.cells #[partV p1, partV p2, partV p3] 23)) (g := w.heap.size) (ps := [p1, p2, p3]) (parts_cells w [p1, p2, p3])
    (fun k h => match k, h with
      | 0, _ => h1.below al
      | 1, _ => h2.below al
      | 2, _ => h3.below al) (by simp) (by rw [hF]; exact hbig)
  rw [hF] at HC
  refine HC.mono ?_
  rintro e w' ⟨A', c', rfl, r, b⟩
  exact ⟨A', c', rfl, r.lower al.size, below_then al b⟩
theorem concat4 {w : World} {p1 p2 p3 p4 : Part} {L : List UInt8} (hL : p1.2.2 ++ p2.2.2 ++ p3.2.2 ++ p4.2.2 = L) (h1 : BSA w p1.1 p1.2.1 p1.2.2) (h2 : BSA w p2.1 p2.2.1 p2.2.2) (h3 : BSA w p3.1 p3.2.1 p3.2.2) (h4 : BSA w p4.1 p4.2.1 p4.2.2) (hbig : L.length ≤ 1000000000000) :
    Calls Tryd.prog 77 #[.slice (some ⟨w.heap.size, 0, none⟩) 4 4] (w.alloc (.cells #[partV p1, partV p2, partV p3, partV p4] 23)) fun e w' => ∃ A' c', e = .returned (.slice A' L.length c') ∧ Row w' w.heap.size A' c' L ∧ Below w.heap.size w w' := by
  have al := below_alloc (Below.refl _ w) (.cells #[partV p1, partV p2, partV p3, partV p4] 23)
  have hF : flat [p1, p2, p3, p4] = L := by simp [flat, ← hL]
  have HC := concat_any (w := w.alloc (.cells #[partV p1, partV p2, partV p3, partV p4] 23)) (g := w.heap.size) (ps := [p1, p2, p3, p4]) (parts_cells w [p1, p2, p3, p4])
    (fun k h => match k, h with
      | 0, _ => h1.below al
      | 1, _ => h2.below al
      | 2, _ => h3.below al
      | 3, _ => h4.below al) (by simp) (by rw [hF]; exact hbig)
  rw [hF] at HC
  refine HC.mono ?_
  rintro e w' ⟨A', c', rfl, r, b⟩
  exact ⟨A', c', rfl, r.lower al.size, below_then al b⟩
theorem lits_bsa (w : World) (l : List UInt8) (hl : l.length ≤ 1000) : BSA (w.alloc (.cells (bytesV l).toArray 5)) (some ⟨w.heap.size, 0, none⟩) l.length l := by
  refine ⟨Nat.le_refl _, by unfold maxLen; omega, (fun e => by cases e), fun ad e j hj => ?_⟩
  cases e
  rw [add_plain]
  exact cell_at (heap_alloc_new w _) (by rw [List.getElem?_toArray]; exact bytesV_get l j hj)
end Go.Proofs.YtmbgfjcmdolggaaDoor

/- The walks of mark: what is hashed, and its digests. -/
namespace Go.Proofs.YtmbgfjcmdolggaaDoor
open Go.RowKit PrintLast

def leafB (k r : List UInt8) : List UInt8 := 1 :: (numBytes k.length 4 ++ k ++ r)
def nodeB (l r : List UInt8) : List UInt8 := 2 :: (l ++ r)
def linkB (l r s : List UInt8) : List UInt8 := 3 :: (l ++ r ++ s)
theorem leafB_length (k r : List UInt8) : (leafB k r).length = 5 + k.length + r.length := by simp [leafB, numBytes_length]; omega
theorem nodeB_length (k r : List UInt8) : (nodeB k r).length = 1 + k.length + r.length := by simp [nodeB]; omega
theorem linkB_length (k r s : List UInt8) : (linkB k r s).length = 1 + k.length + r.length + s.length := by simp [linkB]; omega
/-- What a call leaves that makes bytes of its own. -/
def Gave (w : World) (L : List UInt8) (e : Ending) (w' : World) : Prop := ∃ A' c', e = .returned (.slice A' L.length c') ∧ Row w' w.heap.size A' c' L ∧ Below w.heap.size w w'

set_option maxHeartbeats 1600000 in
theorem nodeBytes_any {w : World} {a b : ByteArray} (ha : a.size ≤ 1000000) (hb : b.size ≤ 1000000) :
    Calls Tryd.prog 82 #[.string a, .string b] w (Gave w (nodeB a.data.toList b.data.toList)) := by
  have h1 := lits_bsa w [2] (by decide)
  have al1 := below_alloc (Below.refl _ w) (.cells (bytesV [2]).toArray 5)
  have s1 : (w.alloc (.cells (bytesV [2]).toArray 5)).heap.size = w.heap.size + 1 := by simp
  have la : a.data.toList.length = a.size := by simp
  have lb : b.data.toList.length = b.size := by simp
  have HL := hid (show (nodeB a.data.toList b.data.toList).length ≤ 1000000000000 by rw [nodeB_length, la, lb]; omega)
  go_enter Tryd.func82, Tryd.ntmps82
  go_wp2_with (refine wpList_conv rfl (.tmp 6) rfl a rfl (by unfold maxLen; omega) ?_)
  intro g1 c1 w1 _ q1 b1
  rw [← s1] at b1
  go_wp2_with (refine wpList_conv rfl (.tmp 8) rfl b rfl (by unfold maxLen; omega) ?_)
  intro g2 c2 w2 _ q2 b2
  have HC := hid (concat3 (w := w2) (p1 := (some ⟨w.heap.size, 0, none⟩, 1, [2])) (p2 := (some ⟨g1, 0, none⟩, c1, a.data.toList)) (p3 := (some ⟨g2, 0, none⟩, c2, b.data.toList)) (L := nodeB a.data.toList b.data.toList) (by simp [nodeB]) ((h1.below b1).below b2) (q1.below b2) q2 HL.out)
  have bb := below_then (al1.trans (b1.mono al1.size)) b2
  clear h1 al1 b1 b2 q1 q2 la lb
  go_wp2_with fail
  refine HC.out.mono ?_
  rintro e w3 ⟨A3, c3, rfl, r3, b3⟩
  go_wp2
  go_ret
  exact ⟨A3, c3, rfl, r3.lower bb.size, below_then bb b3⟩

set_option maxHeartbeats 1600000 in
theorem leafBytes_any {w : World} {a : ByteArray} {A : Option Addr} {c : Nat} {r : List UInt8} (ha : a.size ≤ 1000000) (hr : r.length ≤ 1000000) (hA : BSA w A c r) :
    Calls Tryd.prog 71 #[.string a, .slice A r.length c] w (Gave w (leafB a.data.toList r)) := by
  have la : a.data.toList.length = a.size := by simp
  obtain ⟨N, hN⟩ : ∃ N, N = a.size := ⟨_, rfl⟩
  have nb : numBytes N 4 = [UInt8.ofNat (N / 16777216), UInt8.ofNat (N / 65536), UInt8.ofNat (N / 256), UInt8.ofNat (N / 1)] := rfl
  have f3 : ((N : Int) / 16777216) % 256 = ((UInt8.ofNat (N / 16777216)).toNat : Int) := byte_div N 24
  have f2 : ((N : Int) / 65536) % 256 = ((UInt8.ofNat (N / 65536)).toNat : Int) := byte_div N 16
  have f1 : ((N : Int) / 256) % 256 = ((UInt8.ofNat (N / 256)).toNat : Int) := byte_div N 8
  have f0 : (N : Int) % 256 = ((UInt8.ofNat (N / 1)).toNat : Int) := by simp
  obtain ⟨x3, h3⟩ : ∃ x, x = UInt8.ofNat (N / 16777216) := ⟨_, rfl⟩
  obtain ⟨x2, h2⟩ : ∃ x, x = UInt8.ofNat (N / 65536) := ⟨_, rfl⟩
  obtain ⟨x1, h1⟩ : ∃ x, x = UInt8.ofNat (N / 256) := ⟨_, rfl⟩
  obtain ⟨x0, h0⟩ : ∃ x, x = UInt8.ofNat (N / 1) := ⟨_, rfl⟩
  rw [← h3, ← h2, ← h1, ← h0] at nb
  rw [← h3] at f3
  rw [← h2] at f2
  rw [← h1] at f1
  rw [← h0] at f0
  have q0 := lits_bsa w [1, x3, x2, x1, x0] (by simp)
  have al1 := below_alloc (Below.refl _ w) (.cells (bytesV [1, x3, x2, x1, x0]).toArray 5)
  have s1 : (w.alloc (.cells (bytesV [1, x3, x2, x1, x0]).toArray 5)).heap.size = w.heap.size + 1 := by simp
  have HL := hid (show (leafB a.data.toList r).length ≤ 1000000000000 by rw [leafB_length, la]; omega)
  have hE := hid (show [1, x3, x2, x1, x0] ++ a.data.toList ++ r = leafB a.data.toList r by unfold leafB; rw [la, ← hN, nb]; simp)
  have hz : (a.size : Int) = (N : Int) := by omega
  have hr1 := hA.below al1
  have ha' : a.size ≤ maxLen := by unfold maxLen; omega
  clear h3 h2 h1 h0 nb la ha hN hr
  go_enter Tryd.func71, Tryd.ntmps71
  go_wp2_with (refine wpList_conv rfl (.tmp 20) rfl a rfl ha' ?_)
  intro g1 c1 w1 _ q1 b1
  rw [← s1] at b1
  have HC := hid (concat3 (w := w1) (p1 := (some ⟨w.heap.size, 0, none⟩, 5, [1, x3, x2, x1, x0])) (p2 := (some ⟨g1, 0, none⟩, c1, a.data.toList)) (p3 := (A, c, r)) (L := leafB a.data.toList r) hE.out (q0.below b1) q1 (hr1.below b1) HL.out)
  have bb := al1.trans (b1.mono al1.size)
  clear q0 al1 b1 q1 hr1
  go_wp2_with fail
  refine HC.out.mono ?_
  rintro e w3 ⟨A3, c3, rfl, r3, b3⟩
  go_wp2
  go_ret
  exact ⟨A3, c3, rfl, r3.lower bb.size, below_then bb b3⟩
end Go.Proofs.YtmbgfjcmdolggaaDoor

/- The walks of mark's digests, and of the reference's. -/
namespace Go.Proofs.YtmbgfjcmdolggaaDoor
open Go.RowKit PrintLast

theorem bsz (s : ByteArray) : s.data.toList.length = s.size := by simp
theorem sum256_length (p : List UInt8) : (sum256 p).length = 32 := by
  have e : sum256 p = bytesOf (run first (padded p)).1 := rfl
  rw [e, bytesOf_length, run_length rfl _]
/-- A digest, as a string. -/
def dig (p : List UInt8) : ByteArray := ⟨(sum256 p).toArray⟩
theorem sum_dig {w : World} {A : Option Addr} {c : Nat} {p : List UInt8} {n : Nat} (hn : p.length = n) (hT : Table w) (hp : BSA w A c p) (hb : p.length ≤ 1000000000000) :
    Calls Tryd.prog 47 #[.slice A n c] w fun e w' => e = .returned (.string (dig p)) ∧ Below w.heap.size w w' := by subst hn; exact sum_any hT hp hb
theorem rsum_dig {w : World} {A : Option Addr} {c : Nat} {p : List UInt8} {n : Nat} (hn : p.length = n) (hp : BSA w A c p) (hb : p.length ≤ 1000000000000) :
    Calls Tryd.prog 31 #[.slice A n c] w fun e w' => e = .returned (.string (dig p)) ∧ Below w.heap.size w w' := by subst hn; exact rsum_any hp hb
theorem dig_list (p : List UInt8) : (dig p).data.toList = sum256 p := by simp [dig]
theorem dig_size (p : List UInt8) : (dig p).size = 32 := by
  have h : (dig p).size = (sum256 p).length := by simp [dig, ByteArray.size]
  rw [h]; exact sum256_length p

set_option maxHeartbeats 1600000 in
theorem leaf_any {w : World} (hT : Table w) {a : ByteArray} {A : Option Addr} {c : Nat} {r : List UInt8} (ha : a.size ≤ 1000000) (hr : r.length ≤ 1000000) (hA : BSA w A c r) :
    Calls Tryd.prog 62 #[.string a, .slice A r.length c] w fun e w' => e = .returned (.string (dig (leafB a.data.toList r))) ∧ Below w.heap.size w w' := by
  have HL := hid (leafBytes_any ha hr hA)
  have hl : (leafB a.data.toList r).length ≤ 1000000000000 := by rw [leafB_length]; simp; omega
  obtain ⟨L, hL⟩ : ∃ L, L = leafB a.data.toList r := ⟨_, rfl⟩
  rw [← hL] at HL hl ⊢
  have hl' := hid hl
  clear hL hA hl
  go_enter Tryd.func62, Tryd.ntmps62
  go_wp2_with fail
  refine HL.out.mono ?_
  rintro e w1 ⟨A1, c1, rfl, r1, b1⟩
  have HS := hid (sum_dig rfl (hT.below b1) r1.bsa hl'.out)
  go_wp2_with fail
  refine HS.out.mono ?_
  rintro e w2 ⟨rfl, b2⟩
  go_wp2
  go_ret
  exact ⟨rfl, below_then b1 b2⟩

set_option maxHeartbeats 1600000 in
theorem node_any {w : World} (hT : Table w) {a b : ByteArray} (ha : a.size ≤ 1000000) (hb : b.size ≤ 1000000) :
    Calls Tryd.prog 76 #[.string a, .string b] w fun e w' => e = .returned (.string (dig (nodeB a.data.toList b.data.toList))) ∧ Below w.heap.size w w' := by
  have HL := hid (nodeBytes_any (w := w) ha hb)
  have hl : (nodeB a.data.toList b.data.toList).length ≤ 1000000000000 := by rw [nodeB_length]; simp; omega
  obtain ⟨L, hL⟩ : ∃ L, L = nodeB a.data.toList b.data.toList := ⟨_, rfl⟩
  rw [← hL] at HL hl ⊢
  have hl' := hid hl
  clear hL hl
  go_enter Tryd.func76, Tryd.ntmps76
  go_wp2_with fail
  refine HL.out.mono ?_
  rintro e w1 ⟨A1, c1, rfl, r1, b1⟩
  have HS := hid (sum_dig rfl (hT.below b1) r1.bsa hl'.out)
  go_wp2_with fail
  refine HS.out.mono ?_
  rintro e w2 ⟨rfl, b2⟩
  go_wp2
  go_ret
  exact ⟨rfl, below_then b1 b2⟩

set_option maxHeartbeats 1600000 in
theorem empty_any {w : World} (hT : Table w) : Calls Tryd.prog 57 #[] w fun e w' => e = .returned (.string (dig [0])) ∧ Below w.heap.size w w' := by
  have q0 := lits_bsa w [0] (by simp)
  have al1 := below_alloc (Below.refl _ w) (.cells (bytesV [0]).toArray 5)
  have HS := hid (sum_dig (n := 1) rfl (hT.below al1) q0 (by simp))
  clear q0
  go_enter Tryd.func57, Tryd.ntmps57
  go_wp2_with fail
  refine HS.out.mono ?_
  rintro e w2 ⟨rfl, b2⟩
  go_wp2
  go_ret
  exact ⟨rfl, below_then al1 b2⟩

/-! ### the reference -/
set_option maxHeartbeats 1600000 in
theorem rempty_any {w : World} : Calls Tryd.prog 67 #[] w fun e w' => e = .returned (.string (dig [0])) ∧ Below w.heap.size w w' := by
  have q0 := lits_bsa w [0] (by simp)
  have al1 := below_alloc (Below.refl _ w) (.cells (bytesV [0]).toArray 5)
  have HS := hid (rsum_dig (n := 1) rfl q0 (by simp))
  clear q0
  go_enter Tryd.func67, Tryd.ntmps67
  go_wp2_with fail
  refine HS.out.mono ?_
  rintro e w2 ⟨rfl, b2⟩
  go_wp2
  go_ret
  exact ⟨rfl, below_then al1 b2⟩

theorem join_gave {w : World} {A B : Option Addr} {c d n1 n2 : Nat} {x y L : List UInt8} (h1 : x.length = n1) (h2 : y.length = n2) (hL : x ++ y = L) (hx : BSA w A c x) (hy : BSA w B d y) (hbig : L.length ≤ 1000000000000) :
    Calls Tryd.prog 22 #[.slice A n1 c, .slice B n2 d] w (Gave w L) := by
  subst h1 h2 hL
  rw [List.length_append] at hbig
  refine (join_any hx hy (by omega)).mono ?_
  rintro e w' ⟨A', c', rfl, m⟩
  exact ⟨A', c', by rw [List.length_append], m.row (by simp), m.2.2⟩

set_option maxHeartbeats 1600000 in
theorem rleafBytes_any {w : World} {a : ByteArray} {A : Option Addr} {c : Nat} {r : List UInt8} (ha : a.size ≤ 1000000) (hr : r.length ≤ 1000000) (hA : BSA w A c r) :
    Calls Tryd.prog 68 #[.string a, .slice A r.length c] w (Gave w (leafB a.data.toList r)) := by
  have la : a.data.toList.length = a.size := by simp
  obtain ⟨N, hN⟩ : ∃ N, N = a.size := ⟨_, rfl⟩
  have hz : (a.size : Int) = (N : Int) := by omega
  have aN : (N : Int) % 18446744073709551616 = (N : Int) := by omega
  have q0 := lits_bsa w [1] (by simp)
  have al1 := below_alloc (Below.refl _ w) (.cells (bytesV [1]).toArray 5)
  obtain ⟨L1, hL1⟩ : ∃ L, L = [1] ++ numBytes N 4 := ⟨_, rfl⟩
  obtain ⟨L2, hL2⟩ : ∃ L, L = L1 ++ a.data.toList := ⟨_, rfl⟩
  have hL3 : L2 ++ r = leafB a.data.toList r := by rw [hL2, hL1, leafB, la, ← hN]; simp
  have l1 : L1.length = 5 := by rw [hL1]; simp [numBytes_length]
  have l2 : L2.length = 5 + N := by rw [hL2, List.length_append, l1, la, hN]
  obtain ⟨L, hL⟩ : ∃ L, L = leafB a.data.toList r := ⟨_, rfl⟩
  have l3 : L.length = 5 + N + r.length := by rw [hL, ← hL3, List.length_append, l2]
  rw [← hL] at hL3 ⊢
  have X := hid (And.intro hL1 (And.intro hL2 hL3))
  have Y := hid (And.intro l1 (And.intro l2 l3))
  have LA := hid la
  have ha' : a.size ≤ maxLen := by unfold maxLen; omega
  have hNb : N ≤ 1000000 := by omega
  clear hL1 hL2 hL3 l1 l2 l3 hL la hN
  have HN := hid (num_any (w := w.alloc (.cells (bytesV [1]).toArray 5)) (n := N) (m := 4) (by omega))
  go_enter Tryd.func68, Tryd.ntmps68
  go_wp2_with fail
  refine HN.out.mono ?_
  rintro e w1 ⟨A1, c1, rfl, r1, _, b1⟩
  have q1 := q0.below b1
  have bb1 := below_then al1 b1
  have p1 := r1.bsa
  have HJ := hid (join_gave (n1 := 1) (n2 := 4) rfl (numBytes_length N 4) X.out.1.symm q1 p1 (by have := Y.out; omega))
  clear HN q0 al1 b1 r1 q1 p1
  go_wp2_with fail
  refine HJ.out.mono ?_
  rintro e w2 ⟨A2, c2, rfl, r2, b2⟩
  have bb2 := below_then bb1 b2
  clear HJ bb1 b2
  go_wp2_with (refine wpList_conv rfl (.tmp 11) rfl a rfl ha' ?_)
  intro g3 c3 w3 _ q3 b3
  have bb3 := below_then bb2 b3
  have HJ := hid (join_gave rfl LA.out X.out.2.1.symm (r2.bsa.below b3) q3 (by have := Y.out; omega))
  clear r2 b3 q3 bb2
  go_wp2_with fail
  refine HJ.out.mono ?_
  rintro e w4 ⟨A4, c4, rfl, r4, b4⟩
  have bb4 := below_then bb3 b4
  have HJ := hid (join_gave rfl rfl X.out.2.2 r4.bsa (hA.below bb4) (by have := Y.out; omega))
  clear r4 b4 bb3
  go_wp2_with fail
  refine HJ.out.mono ?_
  rintro e w5 ⟨A5, c5, rfl, r5, b5⟩
  go_wp2
  go_ret
  exact ⟨A5, c5, rfl, r5.lower bb4.size, below_then bb4 b5⟩

/-- What a call leaves that makes bytes. -/
def GaveB (w : World) (L : List UInt8) (e : Ending) (w' : World) : Prop := ∃ A' c', e = .returned (.slice A' L.length c') ∧ BSA w' A' c' L ∧ Below w.heap.size w w'

set_option maxHeartbeats 1600000 in
theorem rnodeBytes_any {w : World} {a b : ByteArray} (ha : a.size ≤ 1000000) (hb : b.size ≤ 1000000) :
    Calls Tryd.prog 69 #[.string a, .string b] w (GaveB w (nodeB a.data.toList b.data.toList)) := by
  have la : a.data.toList.length = a.size := by simp
  have lb : b.data.toList.length = b.size := by simp
  have hE : ((⟨#[2]⟩ : ByteArray) ++ a ++ b).data.toList = nodeB a.data.toList b.data.toList := by simp [nodeB]
  have hl := nodeB_length a.data.toList b.data.toList
  rw [la, lb] at hl
  have hm : ((⟨#[2]⟩ : ByteArray) ++ a ++ b).size ≤ maxLen := by
    rw [← bsz, hE, hl]; unfold maxLen; omega
  have HL := hid hl
  have HE := hid hE
  clear la lb hl hE
  go_enter Tryd.func69, Tryd.ntmps69
  go_wp2_with (refine wpList_conv rfl (.tmp 8) rfl ((⟨#[2]⟩ : ByteArray) ++ a ++ b) rfl hm ?_)
  intro g c w1 _ q b1
  try simp only [List.append_eq] at q
  go_wp2
  go_ret
  exact ⟨some ⟨g, 0, none⟩, c, by rw [HL.out]; rfl, by first | (rw [← HE.out]; exact q) | exact q, b1⟩

end Go.Proofs.YtmbgfjcmdolggaaDoor

/- What came in, opened: bytes; lists of bytes' kind. -/
namespace Go.Proofs.YtmbgfjcmdolggaaDoor
open Go.RowKit Go.ChangeShapes Go.WideShapes Go.Deep

section
variable {H : Type} {enc : TypeId × Value → H} {w : World} {base : Nat} {spare : Nat → Bool} {held : Bool}

theorem u8_of_int {z : Int} (h : (Lit.int .u8 z).wf = true) : ((UInt8.ofNat z.toNat).toNat : Int) = z := by
  have h' := bounds_u8 h
  rw [UInt8.toNat_ofNat']
  omega

theorem open_bytes' {fuel : Nat} {cs : List Value} {x : DataW H × List MemPlace} (h : DataW.trod enc Tryd.prog w base spare held fuel 23 cs = some x) : ∃ (l : List UInt8) (a : Option Addr) (cap : Nat), cs = [.slice a l.length cap] ∧ BSA w a cap l := by
  rcases open_ints Tryd.underlying23 Tryd.underlying5 (by kernel_rfl) h with ⟨hcs, _⟩ | ⟨ad, len, cap, zs, hcs, _, hl, hm, hz, _, hcell, hwz⟩
  · exact ⟨[], none, 0, hcs, BSA.nil w⟩
  · have hzl : len ≤ zs.length := by rw [hz]; split <;> omega
    have hlen : ((zs.take len).map fun z => UInt8.ofNat z.toNat).length = len := by simp; omega
    refine ⟨(zs.take len).map fun z => UInt8.ofNat z.toNat, some ad, cap, by rw [hlen]; exact hcs, by omega, hm, (fun e => by cases e), fun ad' e j hj => ?_⟩
    cases e
    have hj' : j < len := by omega
    rw [hcell j (by omega)]
    have hg : zs.getD j 0 = zs[j]'(by omega) := by simp [List.getD, show j < zs.length by omega]
    simp only [List.getElem_map, List.getElem_take]
    rw [u8_of_int (hwz _ (List.getElem_mem _)), hg]
theorem open_bytes {fuel : Nat} {a : Option Addr} {len cap : Nat} {x : DataW H × List MemPlace} (h : DataW.trod enc Tryd.prog w base spare held fuel 23 [.slice a len cap] = some x) : ∃ l : List UInt8, l.length = len ∧ BSA w a cap l := by
  obtain ⟨l, a', cap', e, hb⟩ := open_bytes' h
  simp at e
  obtain ⟨rfl, rfl, rfl⟩ := e
  exact ⟨l, rfl, hb⟩
end
end Go.Proofs.YtmbgfjcmdolggaaDoor

/- A list of bytes that came in, opened. -/
namespace Go.Proofs.YtmbgfjcmdolggaaDoor
open Go.RowKit Go.ChangeShapes Go.WideShapes Go.Deep

def PartsAt (w : World) (A : Option Addr) (ps : List Part) : Prop :=
  (A = none → ps = []) ∧ ∀ ad, A = some ad → ∀ j (h : j < ps.length), w.cell? (ad.add j) = some (partV ps[j]) ∧ BSA w ps[j].1 ps[j].2.1 ps[j].2.2
theorem PartsAt.below {w w' : World} {A : Option Addr} {ps : List Part} (h : PartsAt w A ps) (hb : Below w.heap.size w w') : PartsAt w' A ps :=
  ⟨h.1, fun ad e j hj => ⟨below_cell hb (h.2 ad e j hj).1, (h.2 ad e j hj).2.below hb⟩⟩
/-- Element k, its place written out. -/
theorem PartsAt.at_ {w : World} {A : Option Addr} {ps : List Part} (h : PartsAt w A ps) (k : Nat) (hk : k < ps.length) : ∃ b o, A = some ⟨b, o, none⟩ ∧ w.cell? ⟨b, o + k, none⟩ = some (partV ps[k]) ∧ BSA w ps[k].1 ps[k].2.1 ps[k].2.2 := by
  cases A with
  | none => have := h.1 rfl; subst this; simp at hk
  | some ad =>
    obtain ⟨h1, h2⟩ := h.2 ad rfl k hk
    obtain ⟨b, o, sp⟩ := ad
    have hs : sp = none := by
      have g1 := (h.2 _ rfl 0 (by omega)).1
      simpa [Addr.add] using World.cell?_spot g1
    subst hs
    have hadd : ∀ i, (⟨b, o, none⟩ : Addr).add i = ⟨b, o + i, none⟩ := fun i => by unfold Addr.add; split <;> simp_all
    rw [hadd] at h1
    exact ⟨b, o, rfl, h1, h2⟩

theorem pick_lt {α : Type} [Inhabited α] {n : Nat} {p : Nat → α → Prop} (h : ∀ i, i < n → ∃ x, p i x) : ∃ f : Nat → α, ∀ i, i < n → p i (f i) := by
  refine ⟨fun i => if hi : i < n then (h i hi).choose else default, fun i hi => ?_⟩
  simp only [hi, dif_pos]
  exact (h i hi).choose_spec
section
variable {H : Type} {enc : TypeId × Value → H} {w : World} {base : Nat} {spare : Nat → Bool} {held : Bool}
theorem open_parts {fuel : Nat} {a : Option Addr} {len cap : Nat} {x : DataW H × List MemPlace} (h : DataW.trod enc Tryd.prog w base spare held fuel 22 [.slice a len cap] = some x) : ∃ ps : List Part, ps.length = len ∧ ps.length ≤ cap ∧ cap ≤ maxLen ∧ PartsAt w a ps := by
  have hce : Tryd.prog.cellsOf 23 = 1 := by kernel_rfl
  rcases open_slice Tryd.underlying22 h with ⟨hcs, _⟩ | ⟨ad, l, c, m, n, D, Pl, hcs, _, hl, hm, hmm, _, hel⟩
  · simp at hcs
    obtain ⟨rfl, rfl, rfl⟩ := hcs
    exact ⟨[], rfl, Nat.le_refl _, by unfold maxLen; omega, fun _ => rfl, fun ad e => by cases e⟩
  · simp at hcs
    obtain ⟨rfl, rfl, rfl⟩ := hcs
    have hlm : len ≤ m := by rw [hmm]; split <;> omega
    have key : ∀ i, i < len → ∃ x : Part, w.cell? (ad.add i) = some (partV x) ∧ BSA w x.1 x.2.1 x.2.2 := by
      intro i hi
      obtain ⟨cs', hcells, hy⟩ := hel i (by omega)
      rw [hce, Nat.mul_one] at hcells
      obtain ⟨_, hlen, hcell⟩ := World.cells?_some hcells
      obtain ⟨lp, B, c', e2, hb⟩ := open_bytes' hy
      subst e2
      have q0 := hcell 0 (by simp)
      have e0 : (ad.add i).add 0 = ad.add i := by rw [add_add]; rfl
      rw [e0] at q0
      exact ⟨(B, c', lp), q0, hb⟩
    obtain ⟨f, hf⟩ := pick_lt key
    refine ⟨(List.range len).map f, by simp, by simpa using hl, hm, (fun e => by cases e), fun ad' e j hj => ?_⟩
    cases e
    have hj' : j < len := by simpa using hj
    simpa using hf j hj'
end
end Go.Proofs.YtmbgfjcmdolggaaDoor

/- The walks of package disk: what each method does to a disk's block and its row of bytes. -/
namespace Go.Proofs.YtmbgfjcmdolggaaDoor
open Go.RowKit

theorem infoU8 : (Tryd.prog.info? 5).map (fun i => (i.zero, i.size, i.bytes)) = some (some (.int .u8 0), 1, 1) := by kernel_rfl

/-- The cells of a disk. -/
def dcells (v : Value) (safe calls : Nat) (fails : Bool) : Array Value := #[v, .int .i64 (safe : Int), .int .i64 (calls : Int), .bool fails]

set_option maxHeartbeats 400000 in
theorem clone_any {w : World} {A : Option Addr} {c : Nat} {l : List UInt8} (h : BSA w A c l) (hbig : l.length ≤ 140737488355328) :
    Calls Tryd.prog 58 #[.slice A l.length c] w fun e w' => ∃ A' c', e = .returned (.slice A' l.length c') ∧ w'.ownsRow 0 5 1 (.slice A' l.length c') l.length (bytesV l) ∧ (∀ k, (Value.slice A' l.length c').ownBlock = some k → w.heap.size ≤ k) ∧ Below w.heap.size w w' := by
  have q22 : ∀ (w : World) (a : Option Addr) (n c n' c' : Nat), (binOp .eql 23 (.slice a n c) (.slice none n' c')).run Tryd.prog w = .ok (.bool a.isNone) w := fun w a n c n' c' => Lib.run_eql_slice_nil w _ _ a n c n' c' Tryd.underlying23
  cases A with
  | none =>
    have hc : c = 0 := h.2.2.1 rfl
    have hl : l = [] := List.eq_nil_of_length_eq_zero (by have := h.1; omega)
    subst hc hl
    go_enter Tryd.func58, Tryd.ntmps58
    go_wp2
    go_ret
    exact ⟨none, 0, rfl, World.ownsRow_nil _ _ _ _, fun k hk => by simp [Value.ownBlock] at hk, Below.refl _ _⟩
  | some ad =>
    go_enter Tryd.func58, Tryd.ntmps58
    go_wp2_with (at_builtin; refine wpList_app8 23 5 Tryd.underlying23 infoU8 rfl (.tmp 5) (.tmp 6) rfl _ [] rfl (own_empty w 5 1) (some ad) c l rfl (h.below ((Below.refl _ _).alloc (Nat.le_refl _) _)) (by simpa using hbig) ?_)
    intro A' c' w' h1 h2 h3 h4
    try simp only [List.length_nil, Nat.zero_add, List.nil_append] at h1 h3 ⊢
    go_wp2
    go_ret
    refine ⟨A', c', rfl, h1, fun k hk => ?_, ?_⟩
    · rcases h3 with h3 | h3
      · rw [h3] at hk; simp [Value.ownBlock] at hk; omega
      · rw [h3] at hk; simp at hk; omega
    · exact ((Below.refl _ _).alloc (Nat.le_refl _) _).grown h2 (by simp) (fun k hk => by simp [Value.ownBlock] at hk; omega)
end Go.Proofs.YtmbgfjcmdolggaaDoor

/- The plain law of a proof's bytes: how they are laid, and read. No program in sight. -/
namespace Go.Proofs.YtmbgfjcmdolggaaDoor

/-- A text of bytes. -/
def strB (l : List UInt8) : ByteArray := ⟨l.toArray⟩
theorem strB_list (l : List UInt8) : (strB l).data.toList = l := by simp [strB]
theorem strB_size (l : List UInt8) : (strB l).size = l.length := by simp [strB, ByteArray.size]
theorem str_eq {a b : ByteArray} (h : a.data.toList = b.data.toList) : a = b := by
  cases a; cases b; simp at h; rw [h]
theorem strB_of (s : ByteArray) : strB s.data.toList = s := str_eq (strB_list _)
theorem strB_inj {a b : List UInt8} (h : strB a = strB b) : a = b := by rw [← strB_list a, h, strB_list]

/-- A proof: the digests beside the way, and what stands at its end. -/
structure Prf where
  side : List ByteArray
  kind : UInt8
  key : ByteArray
  row : List UInt8
def textS (s : List UInt8) : List UInt8 := numBytes s.length 2 ++ s
def endS (p : Prf) : List UInt8 := (if p.kind = 2 then textS p.key.data.toList else []) ++ (if p.kind = 1 ∨ p.kind = 2 then textS p.row else [])
def sidesS (l : List ByteArray) : List UInt8 := l.flatMap (·.data.toList)
def encB (p : Prf) : List UInt8 := numBytes p.side.length 2 ++ sidesS p.side ++ p.kind :: endS p

theorem readNat_two (n : Nat) (h : n < 65536) : readNat (numBytes n 2) = n := by
  have e : numBytes n 2 = [UInt8.ofNat (n / 256), UInt8.ofNat (n / 1)] := rfl
  rw [e]
  simp only [readNat, List.foldl_cons, List.foldl_nil, UInt8.toNat_ofNat']
  omega
theorem textS_length (s : List UInt8) : (textS s).length = 2 + s.length := by simp [textS, numBytes_length]

/-- So many bytes, behind how many they are: the bytes, and what is left; or the error's number. -/
def textB (l : List UInt8) : Except Nat (List UInt8 × List UInt8) :=
  if l.length < 2 then .error 3 else if 4000 < readNat (l.take 2) then .error 2 else if (l.drop 2).length < readNat (l.take 2) then .error 3
  else .ok ((l.drop 2).take (readNat (l.take 2)), (l.drop 2).drop (readNat (l.take 2)))
def lastB (p : Prf) (l : List UInt8) : Except Nat Prf := if l = [] then .ok p else .error 2
def rowB (s : List ByteArray) (k : UInt8) (key : ByteArray) (l : List UInt8) : Except Nat Prf :=
  match textB l with
  | .error e => .error e
  | .ok (row, r) => lastB ⟨s, k, key, row⟩ r
def otherB (s : List ByteArray) (k : UInt8) (l : List UInt8) : Except Nat Prf :=
  match textB l with
  | .error e => .error e
  | .ok (key, r) => rowB s k (strB key) r
def endB (s : List ByteArray) : List UInt8 → Except Nat Prf
  | [] => .error 3
  | k :: r => if 2 < k.toNat then .error 2 else if k = 2 then otherB s k r else if k = 1 then rowB s k ByteArray.empty r else lastB ⟨s, k, ByteArray.empty, []⟩ r
/-- The first so many sides. -/
def sidesB (n : Nat) (l : List UInt8) : List ByteArray := (List.range n).map fun i => strB ((l.drop (32 * i)).take 32)
def decB (q : List UInt8) : Except Nat Prf :=
  if q.length < 2 then .error 3 else if 256 < readNat (q.take 2) then .error 2
  else if (q.drop 2).length < 32 * readNat (q.take 2) then .error 3
  else endB (sidesB (readNat (q.take 2)) (q.drop 2)) ((q.drop 2).drop (32 * readNat (q.take 2)))

theorem sidesB_length (n : Nat) (l : List UInt8) : (sidesB n l).length = n := by simp [sidesB]
theorem sidesB_next (n : Nat) (l : List UInt8) : sidesB (n + 1) l = sidesB n l ++ [strB ((l.drop (32 * n)).take 32)] := by
  unfold sidesB
  rw [List.range_succ, List.map_append]
  rfl

/-! ### what was laid is read -/
theorem textB_text (s r : List UInt8) (h : s.length ≤ 4000) : textB (textS s ++ r) = .ok (s, r) := by
  unfold textB textS
  have l2 : (numBytes s.length 2).length = 2 := numBytes_length _ _
  have e1 : (numBytes s.length 2 ++ s ++ r).take 2 = numBytes s.length 2 := by
    rw [List.append_assoc, List.take_append_of_le_length (by omega), List.take_of_length_le (by omega)]
  have e2 : (numBytes s.length 2 ++ s ++ r).drop 2 = s ++ r := by
    rw [List.append_assoc, List.drop_append_of_le_length (by omega), List.drop_of_length_le (by omega), List.nil_append]
  rw [e1, e2, readNat_two _ (by omega)]
  rw [if_neg (by simp [l2]), if_neg (by omega), if_neg (by simp)]
  simp
theorem textB_long (s r : List UInt8) (h : 4000 < s.length) (h2 : s.length < 65536) : textB (textS s ++ r) = .error 2 := by
  unfold textB textS
  have l2 : (numBytes s.length 2).length = 2 := numBytes_length _ _
  have e1 : (numBytes s.length 2 ++ s ++ r).take 2 = numBytes s.length 2 := by
    rw [List.append_assoc, List.take_append_of_le_length (by omega), List.take_of_length_le (by omega)]
  rw [e1, readNat_two _ (by omega)]
  rw [if_neg (by simp [l2]), if_pos (by omega)]
theorem sidesS_length (l : List ByteArray) (h : ∀ s ∈ l, s.size = 32) : (sidesS l).length = 32 * l.length := by
  induction l with
  | nil => rfl
  | cons a l ih =>
    have h1 := h a (by simp)
    have h2 := ih (fun s hs => h s (by simp [hs]))
    have e : sidesS (a :: l) = a.data.toList ++ sidesS l := rfl
    have e3 : a.data.toList.length = a.size := by simp
    rw [e, List.length_append, h2, e3, h1, List.length_cons]
    omega
theorem sidesB_sides (l : List ByteArray) (r : List UInt8) (h : ∀ s ∈ l, s.size = 32) : sidesB l.length (sidesS l ++ r) = l := by
  induction l generalizing r with
  | nil => rfl
  | cons a l ih =>
    have h1 := h a (by simp)
    have e : sidesS (a :: l) = a.data.toList ++ sidesS l := rfl
    have e3 : a.data.toList.length = 32 := by simp; exact h1
    have ih' := ih r (fun s hs => h s (by simp [hs]))
    unfold sidesB at ih' ⊢
    rw [List.length_cons, List.range_succ_eq_map, List.map_cons, List.map_map, e]
    congr 1
    · rw [Nat.mul_zero, List.drop_zero, List.append_assoc, List.take_append_of_le_length (by omega), List.take_of_length_le (by omega), strB_of]
    · refine Eq.trans ?_ ih'
      apply List.map_congr_left
      intro i _
      show strB (((a.data.toList ++ sidesS l ++ r).drop (32 * (i + 1))).take 32) = _
      have : (a.data.toList ++ sidesS l ++ r).drop (32 * (i + 1)) = (sidesS l ++ r).drop (32 * i) := by
        rw [show 32 * (i + 1) = a.data.toList.length + 32 * i by rw [e3]; omega, List.append_assoc, List.drop_length_add_append]
      rw [this]

/-- A proof that may be. -/
def Fits (p : Prf) : Prop := (∀ s ∈ p.side, s.size = 32) ∧ p.side.length ≤ 256 ∧ p.kind.toNat ≤ 2 ∧ p.key.size ≤ 4000 ∧ p.row.length ≤ 4000 ∧ (p.kind ≠ 2 → p.key = ByteArray.empty) ∧ (p.kind = 0 → p.row = [])

theorem decB_head (l : List ByteArray) (r : List UInt8) (hs : ∀ s ∈ l, s.size = 32) (hl : l.length < 65536) :
    decB (numBytes l.length 2 ++ sidesS l ++ r) = if 256 < l.length then .error 2 else endB l r := by
  unfold decB
  have l2 : (numBytes l.length 2).length = 2 := numBytes_length _ _
  have e1 : (numBytes l.length 2 ++ sidesS l ++ r).take 2 = numBytes l.length 2 := by
    rw [List.append_assoc, List.take_append_of_le_length (by omega), List.take_of_length_le (by omega)]
  have e2 : (numBytes l.length 2 ++ sidesS l ++ r).drop 2 = sidesS l ++ r := by
    rw [List.append_assoc, List.drop_append_of_le_length (by omega), List.drop_of_length_le (by omega), List.nil_append]
  have hS := sidesS_length l hs
  rw [e1, e2, readNat_two _ hl]
  rw [if_neg (by simp [l2])]
  by_cases h : 256 < l.length
  · rw [if_pos h, if_pos h]
  · rw [if_neg h, if_neg h, if_neg (by rw [List.length_append, hS]; omega), sidesB_sides l r hs]
    congr 1
    rw [List.drop_append_of_le_length (by omega), List.drop_of_length_le (by omega), List.nil_append]

theorem kind_three {k : UInt8} (h : k.toNat ≤ 2) : k = 0 ∨ k = 1 ∨ k = 2 := by
  have : k.toNat = 0 ∨ k.toNat = 1 ∨ k.toNat = 2 := by omega
  rcases this with h | h | h
  · exact .inl (UInt8.toNat_inj.1 (by simpa using h))
  · exact .inr (.inl (UInt8.toNat_inj.1 (by simpa using h)))
  · exact .inr (.inr (UInt8.toNat_inj.1 (by simpa using h)))

theorem decB_enc (p : Prf) (h : Fits p) : decB (encB p) = .ok p := by
  obtain ⟨h1, h2, h3, h4, h5, h6, h7⟩ := h
  unfold encB
  rw [decB_head p.side _ h1 (by omega), if_neg (by omega)]
  obtain ⟨side, kind, key, row⟩ := p
  have hk : key.data.toList.length ≤ 4000 := by simpa using h4
  rcases kind_three h3 with rfl | rfl | rfl
  · have e1 : key = ByteArray.empty := h6 (show (0 : UInt8) ≠ 2 by decide)
    have e2 : row = [] := h7 rfl
    subst e1 e2
    simp [endB, endS, lastB]
  · have e1 : key = ByteArray.empty := h6 (show (1 : UInt8) ≠ 2 by decide)
    subst e1
    have t := textB_text row [] h5
    rw [List.append_nil] at t
    simp [endB, endS, rowB, t, lastB]
  · have t := textB_text row [] h5
    rw [List.append_nil] at t
    have t2 := textB_text key.data.toList (textS row) hk
    simp [endB, endS, otherB, rowB, t, t2, lastB, strB_of]

/-- Of so many sides and so long a row. -/
theorem decB_many (l : List ByteArray) (row : List UInt8) (hs : ∀ s ∈ l, s.size = 32) (hl : l.length < 65536) (hr : row.length < 65536) :
    decB (encB ⟨l, 1, ByteArray.empty, row⟩) = if 256 < l.length ∨ 4000 < row.length then .error 2 else .ok ⟨l, 1, ByteArray.empty, row⟩ := by
  unfold encB
  rw [decB_head l _ hs hl]
  by_cases h : 256 < l.length
  · rw [if_pos h, if_pos (.inl h)]
  · rw [if_neg h]
    by_cases h2 : 4000 < row.length
    · rw [if_pos (.inr h2)]
      have t := textB_long row [] h2 hr
      rw [List.append_nil] at t
      simp [endB, endS, rowB, t]
    · rw [if_neg (by omega)]
      have t := textB_text row [] (by omega)
      rw [List.append_nil] at t
      simp [endB, endS, rowB, t, lastB]

/-! ### what is read fits -/
theorem textB_fits {l s r : List UInt8} (h : textB l = .ok (s, r)) : s.length ≤ 4000 := by
  unfold textB at h
  split at h
  · cases h
  · split at h
    · cases h
    · split at h
      · cases h
      · cases h
        rw [List.length_take]
        omega
theorem lastB_ok {p p' : Prf} {l : List UInt8} (h : lastB p l = .ok p') : p' = p := by
  unfold lastB at h
  split at h
  · exact (Except.ok.inj h).symm
  · cases h
theorem rowB_ok {s : List ByteArray} {k : UInt8} {key : ByteArray} {l : List UInt8} {p : Prf} (h : rowB s k key l = .ok p) : ∃ row, p = ⟨s, k, key, row⟩ ∧ row.length ≤ 4000 := by
  unfold rowB at h
  split at h
  · cases h
  · rename_i row r ht
    exact ⟨row, lastB_ok h, textB_fits ht⟩
theorem otherB_ok {s : List ByteArray} {k : UInt8} {l : List UInt8} {p : Prf} (h : otherB s k l = .ok p) : ∃ key row, p = ⟨s, k, key, row⟩ ∧ row.length ≤ 4000 ∧ key.size ≤ 4000 := by
  unfold otherB at h
  split at h
  · cases h
  · rename_i key r ht
    obtain ⟨row, rfl, h2⟩ := rowB_ok h
    exact ⟨_, row, rfl, h2, by rw [strB_size]; exact textB_fits ht⟩
theorem endB_fits {s : List ByteArray} {l : List UInt8} {p : Prf} (h : endB s l = .ok p) (hs : ∀ x ∈ s, x.size = 32) (hl : s.length ≤ 256) : Fits p := by
  cases l with
  | nil => cases h
  | cons k r =>
    simp only [endB] at h
    split at h
    · cases h
    · split at h
      · rename_i h1 h2
        obtain ⟨key, row, rfl, h3, h4⟩ := otherB_ok h
        subst h2
        exact ⟨hs, hl, (show (2 : UInt8).toNat ≤ 2 by decide), h4, h3, fun e => absurd rfl e, fun e => by cases e⟩
      · split at h
        · rename_i h1 h2 h3
          obtain ⟨row, rfl, h3'⟩ := rowB_ok h
          subst h3
          exact ⟨hs, hl, (show (1 : UInt8).toNat ≤ 2 by decide), (show ByteArray.empty.size ≤ 4000 by decide), h3', fun _ => rfl, fun e => by cases e⟩
        · rename_i h1 h2 h3
          obtain rfl := lastB_ok h
          exact ⟨hs, hl, (show k.toNat ≤ 2 by omega), (show ByteArray.empty.size ≤ 4000 by decide), by simp, fun _ => rfl, fun _ => rfl⟩
theorem sidesB_size (n : Nat) (l : List UInt8) (h : 32 * n ≤ l.length) : ∀ x ∈ sidesB n l, x.size = 32 := by
  intro x hx
  unfold sidesB at hx
  obtain ⟨i, hi, rfl⟩ := List.mem_map.1 hx
  have := List.mem_range.1 hi
  rw [strB_size, List.length_take, List.length_drop]
  omega
theorem decB_fits {q : List UInt8} {p : Prf} (h : decB q = .ok p) : Fits p := by
  unfold decB at h
  split at h
  · cases h
  · split at h
    · cases h
    · split at h
      · cases h
      · exact endB_fits h (sidesB_size _ _ (by omega)) (by rw [sidesB_length]; omega)
end Go.Proofs.YtmbgfjcmdolggaaDoor

/- The walks of a proof's reader: take, count, kind. -/
namespace Go.Proofs.YtmbgfjcmdolggaaDoor
open Go.RowKit PrintLast

/-! ### bytes, cut -/
theorem add_at (g o i : Nat) : (⟨g, o, none⟩ : Addr).add i = ⟨g, o + i, none⟩ := by unfold Addr.add; split <;> simp_all
theorem BSA.place {w : World} {A : Option Addr} {c : Nat} {l : List UInt8} (h : BSA w A c l) (h0 : 0 < l.length) : ∃ g o, A = some ⟨g, o, none⟩ := by
  obtain ⟨ad, rfl, c0⟩ := h.cell 0 h0
  obtain ⟨g, o, sp⟩ := ad
  have hs : sp = none := by simpa [Addr.add] using World.cell?_spot c0
  subst hs
  exact ⟨g, o, rfl⟩
theorem BSA.at_ {w : World} {g o c : Nat} {l : List UInt8} (h : BSA w (some ⟨g, o, none⟩) c l) (k : Nat) (hk : k < l.length) : w.cell? ⟨g, o + k, none⟩ = some (.int .u8 (l[k].toNat : Int)) := by
  have := h.2.2.2 _ rfl k hk
  rwa [add_at] at this
theorem BSA.cut {w : World} {g o c : Nat} {l : List UInt8} (h : BSA w (some ⟨g, o, none⟩) c l) (k : Nat) (hk : k ≤ l.length) : BSA w (some ⟨g, o + k, none⟩) (c - k) (l.drop k) := by
  obtain ⟨h1, h2, h3, h4⟩ := h
  refine ⟨by rw [List.length_drop]; omega, by omega, (fun e => by cases e), fun ad e j hj => ?_⟩
  cases e
  rw [add_at, List.getElem_drop, Nat.add_assoc]
  have := h4 _ rfl (k + j) (by rw [List.length_drop] at hj; omega)
  rwa [add_at] at this
theorem BSA.head {w : World} {A : Option Addr} {c : Nat} {l : List UInt8} (h : BSA w A c l) (k : Nat) : BSA w A c (l.take k) := by
  obtain ⟨h1, h2, h3, h4⟩ := h
  refine ⟨by rw [List.length_take]; omega, h2, h3, fun ad e j hj => ?_⟩
  rw [List.getElem_take]
  exact h4 ad e j (by rw [List.length_take] at hj; omega)
theorem BSA.none_ {w : World} (g o : Nat) : BSA w (some ⟨g, o, none⟩) 0 [] := ⟨by simp, by unfold maxLen; omega, (fun e => by cases e), fun ad e j hj => by simp at hj⟩
theorem clone_gave {w : World} {A : Option Addr} {c n : Nat} {x : List UInt8} (h1 : x.length = n) (hx : BSA w A c x) (hbig : x.length ≤ 1000000000000) :
    Calls Tryd.prog 58 #[.slice A n c] w (Gave w x) := by
  subst h1
  refine (clone_any hx (by omega)).mono ?_
  rintro e w' ⟨A', c', rfl, m1, m2, m3⟩
  exact ⟨A', c', rfl, Made.row ⟨m1, m2, m3⟩ rfl, m3⟩

theorem keeps_one (w : World) (b i : Nat) (v : Value) : Keeps (fun k => k = b) w (w.setCell ⟨b, i, none⟩ v) := (Keeps.refl (fun k => k = b) w).setCell (p := ⟨b, i, none⟩) (fun _ => rfl) v

/-! ### a reader -/
def rcells (v : Value) (e : Nat) : Array Value := #[v, .int .i64 (e : Int)]
/-- A reader that has failed. -/
def ES (w : World) (b e : Nat) : Prop := ∃ v, w.heap[b]? = some (.cells (rcells v e) 72 (0, 0))
/-- A reader in front of the bytes l. -/
def RS (w : World) (b N : Nat) (l : List UInt8) : Prop :=
  ∃ A c, w.heap[b]? = some (.cells (rcells (.slice A l.length c) 0) 72 (0, 0)) ∧ BSA w A c l ∧ (0 < l.length → ∃ g o, A = some ⟨g, o, none⟩ ∧ g < N) ∧ N ≤ b
/-- A reader that has so many bytes ahead of it. -/
def WS (w : World) (b n : Nat) : Prop := ∃ A c, w.heap[b]? = some (.cells (rcells (.slice A n c) 0) 72 (0, 0)) ∧ n ≤ 9223372036854775807
theorem RS.ws {w : World} {b N : Nat} {l : List UInt8} (h : RS w b N l) : WS w b l.length := by
  obtain ⟨A, c, h1, h2, _⟩ := h
  exact ⟨A, c, h1, h2.le⟩
theorem ES.keeps {S : Nat → Prop} {w w' : World} {b e : Nat} (h : ES w b e) (hk : Keeps S w w') (hn : ¬ S b) : ES w' b e := by
  obtain ⟨v, h1⟩ := h
  exact ⟨v, hk.heap h1 hn⟩
theorem ES.below {w w' : World} {b e : Nat} (h : ES w b e) (hb : Below w.heap.size w w') : ES w' b e := by
  obtain ⟨v, h1⟩ := h
  exact ⟨v, below_heap hb h1⟩
theorem RS.move {w w' : World} {b N : Nat} {l : List UInt8} (h : RS w b N l) (hb : Below N w w') (hh : w'.heap[b]? = w.heap[b]?) : RS w' b N l := by
  obtain ⟨A, c, h1, h2, h3, h4⟩ := h
  refine ⟨A, c, hh.trans h1, ⟨h2.1, h2.2.1, h2.2.2.1, fun ad e j hj => ?_⟩, h3, h4⟩
  obtain ⟨g, o, e3, hg⟩ := h3 (by omega)
  have hc := h2.2.2.2 ad e j hj
  rw [e3] at e
  cases e
  exact (hb.cell (by rw [addr_add_block]; exact hg)).trans hc
theorem RS.below {w w' : World} {b N : Nat} {l : List UInt8} (h : RS w b N l) (hb : Below w.heap.size w w') : RS w' b N l := by
  have hlt : b < w.heap.size := by obtain ⟨A, c, h1, _⟩ := h; exact lt_of_block h1
  have hN : N ≤ b := by obtain ⟨A, c, _, _, _, h4⟩ := h; exact h4
  refine h.move ⟨hb.os, hb.tape, hb.output, hb.size, fun k hk => hb.block k (by omega)⟩ (hb.block b hlt)

set_option maxHeartbeats 800000 in
theorem take_err {w : World} {b e : Nat} {n : Int} (h : ES w b e) (he : 0 < e) (he2 : e ≤ 3) :
    Calls Tryd.prog 36 #[.pointer (some ⟨b, 0, none⟩), .int .i64 n] w fun x w' => x = .returned (.slice none 0 0) ∧ w = w' := by
  obtain ⟨v, h1⟩ := h
  have c1 := cell_at h1 (i := 1) (v := .int .i64 (e : Int)) rfl
  have t1 : ((e : Int) == 0) = false := by rw [beq_eq_false_iff_ne]; omega
  have t2 : ((e : Int) != 0) = true := by rw [bne_iff_ne]; omega
  clear h1
  go_enter Tryd.func36, Tryd.ntmps36
  go_wp2
  go_ret
  exact ⟨rfl, rfl⟩

set_option maxHeartbeats 800000 in
theorem take_short {w : World} {b m n : Nat} (h : WS w b m) (hn : m < n) (hn2 : n ≤ 1000000) :
    Calls Tryd.prog 36 #[.pointer (some ⟨b, 0, none⟩), .int .i64 (n : Int)] w fun x w' => x = .returned (.slice none 0 0) ∧ ES w' b 3 ∧ Keeps (fun k => k = b) w w' := by
  obtain ⟨A, c, h1, h2⟩ := h
  have c0 := cell_at h1 (i := 0) (v := .slice A m c) rfl
  have c1 := cell_at h1 (i := 1) (v := .int .i64 0) rfl
  have f1 := free_at h1 1
  have t1 : decide ((m : Int) < (n : Int)) = true := by simp; omega
  have hs := hid (heap_set (i := 1) (v := .int .i64 3) h1)
  clear h1
  go_enter Tryd.func36, Tryd.ntmps36
  go_wp2
  go_ret
  exact ⟨rfl, ⟨_, hs.out⟩, keeps_one w b 1 _⟩

/-- What a reader leaves that has taken so many bytes. -/
def Took (w : World) (b N : Nat) (l : List UInt8) (n : Nat) (x : Ending) (w' : World) : Prop :=
  ∃ A' c', x = .returned (.slice A' n c') ∧ Row w' w.heap.size A' c' (l.take n) ∧ RS w' b N (l.drop n) ∧ Keeps (fun k => k = b) w w'

set_option maxHeartbeats 1600000 in
theorem take_ok {w : World} {b n N : Nat} {l : List UInt8} (h : RS w b N l) (hn : n ≤ l.length) (hn2 : n ≤ 1000000) :
    Calls Tryd.prog 36 #[.pointer (some ⟨b, 0, none⟩), .int .i64 (n : Int)] w (Took w b N l n) := by
  obtain ⟨A, c, h1, h2, h3, hNb⟩ := h
  have hbw := lt_of_block h1
  have hc1 := h2.1
  have hc2 := h2.2.1
  unfold maxLen at hc2
  have lt : (l.take n).length = n := by rw [List.length_take]; omega
  have ld : (l.drop n).length = l.length - n := by rw [List.length_drop]
  have c1 := cell_at h1 (i := 1) (v := .int .i64 0) rfl
  have f0 := free_at h1 0
  obtain ⟨L, hL⟩ : ∃ L, L = l.length := ⟨_, rfl⟩
  have c0 := cell_at h1 (i := 0) (v := .slice A l.length c) rfl
  rw [← hL] at hn hc1 ld c0
  have t1 : decide ((L : Int) < (n : Int)) = false := by simp; omega
  have HL := hid hL
  have LT := hid lt
  have LD := hid ld
  have HD := hid h2
  clear hL lt ld h2
  rcases Nat.eq_zero_or_pos l.length with hl0 | hl0
  · have hL0 : L = 0 := by rw [HL.out]; exact hl0
    have hn0 : n = 0 := by omega
    subst hL0 hn0
    obtain rfl : l = [] := List.eq_nil_of_length_eq_zero hl0
    have hsz : ∀ w' : World, (sizeOf (Tryd.prog.elem 23)).run Tryd.prog w' = .ok 1 w' := fun _ => by kernel_rfl
    have ha0 : Option.map (fun x : Addr => x.add 0) A = A := by cases A <;> simp [Addr.add]
    have S1 : ∀ w' : World, (Instr.slice 23 (.slice A 0 c) none (some (.int .i64 0)) none).run Tryd.prog w' = .ok (.slice A 0 c) w' := fun w' => by
      rw [run_slice_h w' 23 A 0 c (by kernel_rfl) .i64 0 (by omega) (by omega), hsz w']
      simp only [Result.andThen, sliced, Nat.zero_mul, ha0]
      simp
    have S2 : ∀ w' : World, (Instr.slice 23 (.slice A 0 c) (some (.int .i64 0)) none none).run Tryd.prog w' = .ok (.slice A 0 c) w' := fun w' => by
      rw [run_slice_l w' 23 A 0 c (by kernel_rfl) .i64 0 (by omega) (by omega), hsz w']
      simp only [Result.andThen, sliced, Nat.zero_mul, ha0, Int.toNat_zero]
      simp
    have hs := hid (heap_set (i := 0) (v := .slice A 0 c) h1)
    have B0 : ∀ w' : World, BSA w' A c [] := fun w' => ⟨HD.out.1, HD.out.2.1, HD.out.2.2.1, fun ad e j hj => by simp at hj⟩
    have HB0 := hid B0
    have H := hid (clone_gave (n := 0) (x := []) rfl (B0 (w.setCell ⟨b, 0, none⟩ (.slice A 0 c))) (by simp))
    have HC := hid hc1
    clear h1 B0 ha0 hsz hc1 hc2 hl0 h3
    go_enter Tryd.func36, Tryd.ntmps36
    go_wp2_with fail
    refine H.out.mono ?_
    rintro e w1 ⟨A1, c1, rfl, r1, b1⟩
    have ss : (w.setCell ⟨b, 0, none⟩ (.slice A 0 c)).heap.size = w.heap.size := by simp [World.setCell]
    rw [ss] at r1
    have K1 : Keeps (fun k => k = b) w w1 := (keeps_one w b 0 _).below b1
    have R1 : RS w1 b N [] := ⟨A, c, below_heap b1 hs.out, HB0.out w1, fun e => by simp at e, hNb⟩
    clear S1 S2
    go_wp2
    go_ret
    exact ⟨A1, c1, rfl, r1, R1, K1⟩
  · obtain ⟨g, o, rfl, hgN⟩ := h3 hl0
    have hg : g ≠ b := by omega
    clear h3 hl0
    by_cases hcn : c = n
    · have hLn : c = L := by omega
      subst hcn
      subst hLn
      have hs := hid (heap_set (i := 0) (v := .slice (some ⟨g, o, none⟩) 0 0) h1)
      have kp := keeps_one w b 0 (.slice (some ⟨g, o, none⟩) 0 0)
      have q1 := ((HD.out.head c).keeps kp (fun ad e => by cases e; exact hg))
      have H := hid (clone_gave LT.out q1 (by rw [LT.out]; omega))
      have e0 : l.drop c = [] := List.eq_nil_of_length_eq_zero (by rw [LD.out]; omega)
      have E0 := hid e0
      have KP := hid kp
      clear h1 q1 e0 kp
      go_enter Tryd.func36, Tryd.ntmps36
      go_wp2_with fail
      refine H.out.mono ?_
      rintro e w1 ⟨A1, c1, rfl, r1, b1⟩
      have ss : (w.setCell ⟨b, 0, none⟩ (.slice (some ⟨g, o, none⟩) 0 0)).heap.size = w.heap.size := by simp [World.setCell]
      rw [ss] at r1
      have K1 : Keeps (fun k => k = b) w w1 := KP.out.below b1
      have R1 : RS w1 b N (l.drop c) := ⟨some ⟨g, o, none⟩, 0, by rw [E0.out]; exact below_heap b1 hs.out, by rw [E0.out]; exact BSA.none_ g o, fun _ => ⟨g, o, rfl, hgN⟩, hNb⟩
      rw [LT.out]
      go_wp2
      go_ret
      exact ⟨A1, c1, rfl, r1, R1, K1⟩
    · have hs := hid (heap_set (i := 0) (v := .slice (some ⟨g, o + n, none⟩) (L - n) (c - n)) h1)
      have kp := keeps_one w b 0 (.slice (some ⟨g, o + n, none⟩) (L - n) (c - n))
      have q1 := ((HD.out.head n).keeps kp (fun ad e => by cases e; exact hg))
      have q2 := ((HD.out.cut n (by rw [← HL.out]; exact hn)).keeps kp (fun ad e => by cases e; exact hg))
      have Q2 := hid q2
      have H := hid (clone_gave LT.out q1 (by rw [LT.out]; omega))
      have KP := hid kp
      clear h1 q1 q2 kp
      go_enter Tryd.func36, Tryd.ntmps36
      go_wp2_with fail
      refine H.out.mono ?_
      rintro e w1 ⟨A1, c1, rfl, r1, b1⟩
      have ss : (w.setCell ⟨b, 0, none⟩ (.slice (some ⟨g, o + n, none⟩) (L - n) (c - n))).heap.size = w.heap.size := by simp [World.setCell]
      rw [ss] at r1
      have K1 : Keeps (fun k => k = b) w w1 := KP.out.below b1
      have R1 : RS w1 b N (l.drop n) := ⟨some ⟨g, o + n, none⟩, c - n, by rw [LD.out]; exact below_heap b1 hs.out, Q2.out.below b1, fun _ => ⟨g, o + n, rfl, hgN⟩, hNb⟩
      rw [LT.out]
      go_wp2
      go_ret
      exact ⟨A1, c1, rfl, r1, R1, K1⟩
end Go.Proofs.YtmbgfjcmdolggaaDoor

/- Words that the walks of a proof share: bytes as a text, texts onto bytes. -/
namespace Go.Proofs.YtmbgfjcmdolggaaDoor
open Go.RowKit PrintLast

theorem or_byte (a b : Nat) (ha : a < 16777216) (hb : b < 256) : bits .or .i64 ((a : Int) * 256) (b : Int) = ((256 * a + b : Nat) : Int) := by
  have e : (a : Int) * 256 = ((a * 256 : Nat) : Int) := by omega
  rw [e]
  show IntKind.i64.wrap ((BitVec.ofInt 64 ((a * 256 : Nat) : Int) ||| BitVec.ofInt 64 (b : Int)).toNat : Int) = _
  rw [BitVec.toNat_or, ofInt_u64 (a * 256) (by omega), ofInt_u64 b (by omega)]
  have h := Nat.shiftLeft_add_eq_or_of_lt (i := 8) (b := b) (by omega) a
  rw [Nat.shiftLeft_eq] at h
  have h2 : a * 256 ||| b = 256 * a + b := by
    have : a * 2 ^ 8 = a * 256 := rfl
    rw [this] at h
    omega
  rw [h2, IntKind.wrap_i64]
  omega
theorem lits_row (w : World) {B : Nat} (hB : B ≤ w.heap.size) (l : List UInt8) (hl : l.length ≤ 1000) : Row (w.alloc (.cells (bytesV l).toArray 5)) B (some ⟨w.heap.size, 0, none⟩) l.length l :=
  World.ownsRow_lit (e := 5) (size := 1) w (bytesV l).toArray l.length hB (by unfold maxLen; omega) (by simp [bytesV])
theorem Row.grown {w w' : World} {B c : Nat} {A : Option Addr} {l : List UInt8} {row : Option Nat} (h : Row w B A c l) (hg : w.grownBy w' row) (hn : ∀ k, row = some k → k < B) : Row w' B A c l := by
  refine World.ownsRow.kept h hg ?_
  cases hA : (Value.slice A l.length c).ownBlock with
  | none => exact .inl rfl
  | some k =>
    refine .inr (fun e => ?_)
    have h1 := hn k e.symm
    have h2 := (h.lt k hA).1
    omega
/-- 'append' of a string's bytes to a row of the call's own. -/
theorem wpList_appS {w : World} {ops : Array Oper} {rest : List Oper} {o : Oper} {a : Act} {Q : Exit → Act → World → Prop} (hgd : o.guard = none) (s x : Operand)
    (ho : o.op = .call { callee := .builtin .append, args := #[s, x], argTypes := #[23, 9] }) (B : Nat) (hB : B ≤ w.heap.size)
    (R : Option Addr) (c : Nat) (l : List UInt8) (hs : a.eval s = .slice R l.length c) (hR : Row w B R c l) (q : ByteArray) (hx : a.eval x = .string q)
    (h47 : l.length + q.size ≤ 140737488355328) (n : Nat) (hn : l.length + q.size = n)
    (h : ∀ R' c' w', Row w' B R' c' (l ++ q.data.toList) → Below B w w' → wpList Tryd.prog ops Q rest (a.put o.dst (.slice R' n c')) w') : wpList Tryd.prog ops Q (o :: rest) a w := by
  subst hn
  obtain ⟨i0, hi, hz0, hz1, hz2⟩ := info_parts infU8'
  refine Lib.wpList_append_own_string w hgd s x 23 9 ho B 5 i0 Tryd.underlying23 Tryd.underlying9 hi hz0 hz1 hz2 _ l.length (bytesV l) hs hR q hx (by unfold maxLen; omega) h47 hB ?_
  intro v' w' k1 k2 _
  have e1 : bytesV l ++ Lib.strCells q = bytesV (l ++ q.data.toList) := by rw [bytesV_append]; rfl
  rw [e1] at k1
  have hform : ∃ A' c', v' = .slice A' (l.length + q.size) c' := by
    rcases k1.2 with ⟨e, h0⟩ | ⟨g', cap', cur', e', _⟩
    · rw [e, h0]; exact ⟨_, _, rfl⟩
    · exact ⟨_, _, e'⟩
  obtain ⟨A', c', rfl⟩ := hform
  exact h A' c' w' (by unfold Row; rw [List.length_append, bsz]; exact k1) ((Below.refl B w).grown k2 hB (fun k hk => (hR.lt k hk).1))
/-- A slice of bytes that are there, as a string. -/
theorem conv_bsa {w : World} {A : Option Addr} {c : Nat} {l : List UInt8} (h : BSA w A c l) (h0 : 0 < l.length) : (convert 23 9 (.slice A l.length c)).run Tryd.prog w = .ok (.string ⟨l.toArray⟩) w := by
  obtain ⟨ad, rfl, c0⟩ := h.cell 0 h0
  obtain ⟨g, o, sp⟩ := ad
  have hs : sp = none := by simpa [Addr.add] using World.cell?_spot c0
  subst hs
  have hadd : ∀ i, (⟨g, o, none⟩ : Addr).add i = ⟨g, o + i, none⟩ := fun i => by unfold Addr.add; split <;> simp_all
  rw [run_convert_bytes_arg w 23 5 Tryd.underlying23 Tryd.underlying5 g o l.length c (l.map fun x => (x.toNat : Int)) (by simp) (fun i hi => ?_) 9 Tryd.underlying9]
  · congr 2
    unfold strOfNums
    congr 2
    rw [List.map_map]
    conv => rhs; rw [← List.map_id l]
    apply List.map_congr_left
    intro x _
    simp
  · have := h.2.2.2 _ rfl i hi
    rw [hadd] at this
    rw [this]
    simp [List.getD_eq_getElem?_getD, hi]
set_option maxHeartbeats 1600000 in
theorem equal_any {w : World} {A B : Option Addr} {c d n m : Nat} {x y : List UInt8} (h1 : x.length = n) (h2 : y.length = m) (hx : BSA w A c x) (hy : BSA w B d y) (x0 : 0 < x.length) (y0 : 0 < y.length) :
    Calls Tryd.prog 41 #[.slice A n c, .slice B m d] w fun e w' => e = .returned (.bool (decide (x = y))) ∧ w = w' := by
  subst h1 h2
  have k1 := conv_bsa hx x0
  have k2 := conv_bsa hy y0
  have e1 : ((⟨x.toArray⟩ : ByteArray).toList == (⟨y.toArray⟩ : ByteArray).toList) = decide (x = y) := by
    rw [ByteArray.toList_mk, ByteArray.toList_mk, Bool.eq_iff_iff]; simp
  have E1 := hid e1
  clear e1 hx hy x0 y0
  go_enter Tryd.func41, Tryd.ntmps41
  go_wp2
  go_ret
  exact ⟨by first | (rw [← E1.out]; rfl) | (rw [← E1.out]; simp), rfl⟩
theorem Row.form {w : World} {B c : Nat} {A : Option Addr} {l : List UInt8} (h : Row w B A c l) : A = none ∨ ∃ g, A = some ⟨g, 0, none⟩ := by
  rcases h.2 with ⟨e, _⟩ | ⟨g, cap, cur, e, _⟩
  · exact .inl (Value.slice.inj e).1
  · exact .inr ⟨g, (Value.slice.inj e).1⟩

/-- 'string(b)' of bytes, of none as well. -/
theorem conv_any {w : World} {A : Option Addr} {c n : Nat} {l : List UInt8} (hn : l.length = n) (h : BSA w A c l) : (convert 23 9 (.slice A n c)).run Tryd.prog w = .ok (.string (strB l)) w := by
  subst hn
  rcases Nat.eq_zero_or_pos l.length with h0 | h0
  · obtain rfl := List.eq_nil_of_length_eq_zero h0
    rw [run_convert_bytes_string w 23 9 5 A _ c Tryd.underlying23 Tryd.underlying5 Tryd.underlying9]
    cases A <;> simp [Conv.bytesToString, loadCells]
    all_goals rfl
  · exact conv_bsa h h0

set_option maxHeartbeats 1600000 in
theorem equalB_any {w : World} {A B : Option Addr} {c d n m : Nat} {x y : List UInt8} (h1 : x.length = n) (h2 : y.length = m) (hx : BSA w A c x) (hy : BSA w B d y) :
    Calls Tryd.prog 41 #[.slice A n c, .slice B m d] w fun e w' => e = .returned (.bool (decide (x = y))) ∧ w = w' := by
  have k1 := conv_any h1 hx
  have k2 := conv_any h2 hy
  have e1 : ((strB x).toList == (strB y).toList) = decide (x = y) := by
    unfold strB
    rw [ByteArray.toList_mk, ByteArray.toList_mk, Bool.eq_iff_iff]; simp
  have E1 := hid e1
  clear e1 hx hy h1 h2
  go_enter Tryd.func41, Tryd.ntmps41
  go_wp2
  go_ret
  exact ⟨by first | (rw [← E1.out]; rfl) | (rw [← E1.out]; simp), rfl⟩
end Go.Proofs.YtmbgfjcmdolggaaDoor

/- Rows of noughts that make lays; a row of the call's own, over which one byte is written. -/
namespace Go.Proofs.YtmbgfjcmdolggaaDoor
open Go.RowKit PrintLast

theorem noughts_row (w : World) {B n : Nat} (hB : B ≤ w.heap.size) (hn : n ≤ maxLen) : Row (w.alloc (.cells (madeCells #[.int .u8 0] n) 5)) B (some ⟨w.heap.size, 0, none⟩) n (List.replicate n 0) := by
  have h := World.ownsRow_lit (e := 5) (size := 1) w (madeCells #[.int .u8 0] n) n hB hn (by rw [Nat.mul_one]; exact size_madeCells _ _)
  rw [toList_madeCells_one] at h
  unfold Row
  have e : bytesV (List.replicate n 0) = List.replicate n (Value.int .u8 0) := by simp [bytesV]
  rw [e, List.length_replicate]
  exact h
theorem noughts_bsa {w0 w : World} (_h : Below w0.heap.size w0 w) {n : Nat} (hn : n ≤ maxLen) : BSA (w.alloc (.cells (madeCells #[.int .u8 0] n) 5)) (some ⟨w.heap.size, 0, none⟩) n (List.replicate n 0) :=
  (noughts_row w (Nat.zero_le _) hn).bsa
theorem Row.heap {w : World} {B c g : Nat} {l : List UInt8} (h : Row w B (some ⟨g, 0, none⟩) c l) : ∃ cur, w.heap[g]? = some (.cells cur 5 (0, 0)) ∧ l.length ≤ cur.size ∧ B ≤ g := by
  have hl := h.1
  rcases h.2 with ⟨h', _⟩ | ⟨g', cap', cur, h', hb, hg, hnc, hcm, hcs, _⟩
  · simp at h'
  · simp only [Value.slice.injEq, Option.some.injEq, Addr.mk.injEq, and_true, true_and] at h'
    obtain ⟨rfl, rfl⟩ := h'
    exact ⟨cur, hg, by omega, hb⟩
theorem Row.set {w : World} {B c g : Nat} {l : List UInt8} (h : Row w B (some ⟨g, 0, none⟩) c l) (k : Nat) (b : UInt8) : Row (w.setCell ⟨g, k, none⟩ (.int .u8 (b.toNat : Int))) B (some ⟨g, 0, none⟩) c (l.set k b) := by
  have h1 := (World.ownsRow.stored h k (.int .u8 (b.toNat : Int))).1
  unfold Row
  have e : bytesV (l.set k b) = (bytesV l).set k (.int .u8 (b.toNat : Int)) := by unfold bytesV; rw [List.map_set]
  rw [e, List.length_set]
  exact h1
/-- So much of a row of n is b. -/
def part (l : List UInt8) (b : UInt8) (k : Nat) : List UInt8 := List.replicate k b ++ l.drop k
theorem part_start (l : List UInt8) (b : UInt8) : part l b 0 = l := by simp [part]
theorem part_length {l : List UInt8} (b : UInt8) {k : Nat} (h : k ≤ l.length) : (part l b k).length = l.length := by simp [part]; omega
theorem part_next {l : List UInt8} (b : UInt8) {k : Nat} (h : k < l.length) : (part l b k).set k b = part l b (k + 1) := by
  unfold part
  rw [List.set_append_right _ _ (by simp), List.length_replicate, Nat.sub_self, List.drop_eq_getElem_cons h, List.set_cons_zero]
  simp [List.replicate_succ', List.append_assoc]
theorem part_all {l : List UInt8} (b : UInt8) : part l b l.length = List.replicate l.length b := by simp [part]
end Go.Proofs.YtmbgfjcmdolggaaDoor
