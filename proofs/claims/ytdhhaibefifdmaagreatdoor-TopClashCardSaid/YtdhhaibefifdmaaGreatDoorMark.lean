/- The walks of mark: what is hashed, and its digests. -/
import Derived.Test.YtdhhaibefifdmaaGreatDoorConcat
import Derived.Test.YtdhhaibefifdmaaGreatDoorShaG
set_option linter.unusedVariables false
set_option linter.unusedSimpArgs false
namespace Go.Proofs.YtdhhaibefifdmaaGreatDoor
open Go.RowKit PrintLast

def leafB (k r : List UInt8) : List UInt8 := 1 :: (numBytes k.length 4 ++ k ++ r)
def nodeB (l r : List UInt8) : List UInt8 := 2 :: (l ++ r)
def linkB (l r s : List UInt8) : List UInt8 := 3 :: (l ++ r ++ s)
theorem leafB_length (k r : List UInt8) : (leafB k r).length = 5 + k.length + r.length := by simp [leafB, numBytes_length]; omega
theorem nodeB_length (k r : List UInt8) : (nodeB k r).length = 1 + k.length + r.length := by simp [nodeB]; omega
theorem linkB_length (k r s : List UInt8) : (linkB k r s).length = 1 + k.length + r.length + s.length := by simp [linkB]; omega
/-- What a call leaves that makes bytes of its own. -/
def Gave (w : World) (L : List UInt8) (e : Ending) (w' : World) : Prop := ∃ A' c', e = .returned (.slice A' L.length c') ∧ Row w' w.heap.size A' c' L ∧ Below w.heap.size w w'

set_option maxHeartbeats 1600000 in
theorem nodeBytes_any {w : World} {a b : ByteArray} (ha : a.size ≤ 1000000) (hb : b.size ≤ 1000000) :
    Calls Tryz.prog 36 #[.string a, .string b] w (Gave w (nodeB a.data.toList b.data.toList)) := by
  have h1 := lits_bsa w [2] (by decide)
  have al1 := below_alloc (Below.refl _ w) (.cells (bytesV [2]).toArray 5)
  have s1 : (w.alloc (.cells (bytesV [2]).toArray 5)).heap.size = w.heap.size + 1 := by simp
  have la : a.data.toList.length = a.size := by simp
  have lb : b.data.toList.length = b.size := by simp
  have HL := hid (show (nodeB a.data.toList b.data.toList).length ≤ 1000000000000 by rw [nodeB_length, la, lb]; omega)
  go_enter Tryz.func36, Tryz.ntmps36
  go_wp2_with (refine wpList_conv rfl (.tmp 6) rfl a rfl (by unfold maxLen; omega) ?_)
  intro g1 c1 w1 _ q1 b1
  rw [← s1] at b1
  go_wp2_with (refine wpList_conv rfl (.tmp 8) rfl b rfl (by unfold maxLen; omega) ?_)
  intro g2 c2 w2 _ q2 b2
  have HC := hid (concat3 (w := w2) (p1 := (some ⟨w.heap.size, 0, none⟩, 1, [2])) (p2 := (some ⟨g1, 0, none⟩, c1, a.data.toList)) (p3 := (some ⟨g2, 0, none⟩, c2, b.data.toList)) (L := nodeB a.data.toList b.data.toList) (by simp [nodeB]) ((h1.below b1).below b2) (q1.below b2) q2 HL.out)
  have bb := below_then (al1.trans (b1.mono al1.size)) b2
  clear h1 al1 b1 b2 q1 q2 la lb
  go_wp2_with fail
  refine HC.out.mono ?_
  rintro e w3 ⟨A3, c3, rfl, r3, b3⟩
  go_wp2
  go_ret
  exact ⟨A3, c3, rfl, r3.lower bb.size, below_then bb b3⟩

set_option maxHeartbeats 1600000 in
theorem linkBytes_any {w : World} {a b c : ByteArray} (ha : a.size ≤ 1000000) (hb : b.size ≤ 1000000) (hc : c.size ≤ 1000000) :
    Calls Tryz.prog 37 #[.string a, .string b, .string c] w (Gave w (linkB a.data.toList b.data.toList c.data.toList)) := by
  have h1 := lits_bsa w [3] (by decide)
  have al1 := below_alloc (Below.refl _ w) (.cells (bytesV [3]).toArray 5)
  have s1 : (w.alloc (.cells (bytesV [3]).toArray 5)).heap.size = w.heap.size + 1 := by simp
  have la : a.data.toList.length = a.size := by simp
  have lb : b.data.toList.length = b.size := by simp
  have lc : c.data.toList.length = c.size := by simp
  have HL := hid (show (linkB a.data.toList b.data.toList c.data.toList).length ≤ 1000000000000 by rw [linkB_length, la, lb, lc]; omega)
  go_enter Tryz.func37, Tryz.ntmps37
  go_wp2_with (refine wpList_conv rfl (.tmp 8) rfl a rfl (by unfold maxLen; omega) ?_)
  intro g1 c1 w1 _ q1 b1
  rw [← s1] at b1
  go_wp2_with (refine wpList_conv rfl (.tmp 10) rfl b rfl (by unfold maxLen; omega) ?_)
  intro g2 c2 w2 _ q2 b2
  go_wp2_with (refine wpList_conv rfl (.tmp 12) rfl c rfl (by unfold maxLen; omega) ?_)
  intro g3 c3 w3 _ q3 b3
  have HC := hid (concat4 (w := w3) (p1 := (some ⟨w.heap.size, 0, none⟩, 1, [3])) (p2 := (some ⟨g1, 0, none⟩, c1, a.data.toList)) (p3 := (some ⟨g2, 0, none⟩, c2, b.data.toList)) (p4 := (some ⟨g3, 0, none⟩, c3, c.data.toList)) (L := linkB a.data.toList b.data.toList c.data.toList) (by simp [linkB]) (((h1.below b1).below b2).below b3) ((q1.below b2).below b3) (q2.below b3) q3 HL.out)
  have bb := below_then (below_then (al1.trans (b1.mono al1.size)) b2) b3
  clear h1 al1 b1 b2 b3 q1 q2 q3 la lb lc
  go_wp2_with fail
  refine HC.out.mono ?_
  rintro e w4 ⟨A4, c4, rfl, r4, b4⟩
  go_wp2
  go_ret
  exact ⟨A4, c4, rfl, r4.lower bb.size, below_then bb b4⟩

set_option maxHeartbeats 1600000 in
theorem leafBytes_any {w : World} {a : ByteArray} {A : Option Addr} {c : Nat} {r : List UInt8} (ha : a.size ≤ 1000000) (hr : r.length ≤ 1000000) (hA : BSA w A c r) :
    Calls Tryz.prog 65 #[.string a, .slice A r.length c] w (Gave w (leafB a.data.toList r)) := by
  have la : a.data.toList.length = a.size := by simp
  obtain ⟨N, hN⟩ : ∃ N, N = a.size := ⟨_, rfl⟩
  have nb : numBytes N 4 = [UInt8.ofNat (N / 16777216), UInt8.ofNat (N / 65536), UInt8.ofNat (N / 256), UInt8.ofNat (N / 1)] := rfl
  have f3 : ((N : Int) / 16777216) % 256 = ((UInt8.ofNat (N / 16777216)).toNat : Int) := byte_div N 24
  have f2 : ((N : Int) / 65536) % 256 = ((UInt8.ofNat (N / 65536)).toNat : Int) := byte_div N 16
  have f1 : ((N : Int) / 256) % 256 = ((UInt8.ofNat (N / 256)).toNat : Int) := byte_div N 8
  have f0 : (N : Int) % 256 = ((UInt8.ofNat (N / 1)).toNat : Int) := by simp
  obtain ⟨x3, h3⟩ : ∃ x, x = UInt8.ofNat (N / 16777216) := ⟨_, rfl⟩
  obtain ⟨x2, h2⟩ : ∃ x, x = UInt8.ofNat (N / 65536) := ⟨_, rfl⟩
  obtain ⟨x1, h1⟩ : ∃ x, x = UInt8.ofNat (N / 256) := ⟨_, rfl⟩
  obtain ⟨x0, h0⟩ : ∃ x, x = UInt8.ofNat (N / 1) := ⟨_, rfl⟩
  rw [← h3, ← h2, ← h1, ← h0] at nb
  rw [← h3] at f3
  rw [← h2] at f2
  rw [← h1] at f1
  rw [← h0] at f0
  have q0 := lits_bsa w [1, x3, x2, x1, x0] (by simp)
  have al1 := below_alloc (Below.refl _ w) (.cells (bytesV [1, x3, x2, x1, x0]).toArray 5)
  have s1 : (w.alloc (.cells (bytesV [1, x3, x2, x1, x0]).toArray 5)).heap.size = w.heap.size + 1 := by simp
  have HL := hid (show (leafB a.data.toList r).length ≤ 1000000000000 by rw [leafB_length, la]; omega)
  have hE := hid (show [1, x3, x2, x1, x0] ++ a.data.toList ++ r = leafB a.data.toList r by unfold leafB; rw [la, ← hN, nb]; simp)
  have hz : (a.size : Int) = (N : Int) := by omega
  have hr1 := hA.below al1
  have ha' : a.size ≤ maxLen := by unfold maxLen; omega
  clear h3 h2 h1 h0 nb la ha hN hr
  go_enter Tryz.func65, Tryz.ntmps65
  go_wp2_with (refine wpList_conv rfl (.tmp 20) rfl a rfl ha' ?_)
  intro g1 c1 w1 _ q1 b1
  rw [← s1] at b1
  have HC := hid (concat3 (w := w1) (p1 := (some ⟨w.heap.size, 0, none⟩, 5, [1, x3, x2, x1, x0])) (p2 := (some ⟨g1, 0, none⟩, c1, a.data.toList)) (p3 := (A, c, r)) (L := leafB a.data.toList r) hE.out (q0.below b1) q1 (hr1.below b1) HL.out)
  have bb := al1.trans (b1.mono al1.size)
  clear q0 al1 b1 q1 hr1
  go_wp2_with fail
  refine HC.out.mono ?_
  rintro e w3 ⟨A3, c3, rfl, r3, b3⟩
  go_wp2
  go_ret
  exact ⟨A3, c3, rfl, r3.lower bb.size, below_then bb b3⟩
end Go.Proofs.YtdhhaibefifdmaaGreatDoor
