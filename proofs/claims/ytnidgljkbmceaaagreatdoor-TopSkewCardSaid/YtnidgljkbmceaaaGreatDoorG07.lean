/- The walks of mark: what is hashed, and its digests. -/
import Derived.Test.YtnidgljkbmceaaaGreatDoorG05
import Derived.Test.YtnidgljkbmceaaaGreatDoorG03
import Derived.Test.YtnidgljkbmceaaaGreatDoorG06
import Derived.Test.YtnidgljkbmceaaaGreatDoorG04
import Derived.Lib.AppendStr
import Derived.Laws.BitsAllLaws
import Derived.Laws.BytesString
import Derived.Handy
import Derived.Maps.OwnOps
import Derived.Maps.OwnSet
import Derived.Shelf.SlIter.Nil
import Derived.Shelf.SortM.Plain
import Derived.Shelf.SortM.SortNone
import Derived.Ground.GgzProg
import Derived.Ground.SlgmProg
import Derived.Test.YtnidgljkbmceaaaGreatDoorChecked
set_option linter.unusedVariables false
set_option linter.unusedSimpArgs false
namespace Go.Proofs.YtnidgljkbmceaaaGreatDoor
open Go.RowKit PrintLast
def leafB (k r : List UInt8) : List UInt8 := 1 :: (numBytes k.length 4 ++ k ++ r)
def nodeB (l r : List UInt8) : List UInt8 := 2 :: (l ++ r)
def linkB (l r s : List UInt8) : List UInt8 := 3 :: (l ++ r ++ s)
theorem leafB_length (k r : List UInt8) : (leafB k r).length = 5 + k.length + r.length := by simp [leafB, numBytes_length]; omega
theorem nodeB_length (k r : List UInt8) : (nodeB k r).length = 1 + k.length + r.length := by simp [nodeB]; omega
theorem linkB_length (k r s : List UInt8) : (linkB k r s).length = 1 + k.length + r.length + s.length := by simp [linkB]; omega
def Gave (w : World) (L : List UInt8) (e : Ending) (w' : World) : Prop := ∃ A' c', e = .returned (.slice A' L.length c') ∧ Row w' w.heap.size A' c' L ∧ Below w.heap.size w w'
set_option maxHeartbeats 1600000 in
theorem nodeBytes_any {w : World} {a b : ByteArray} (ha : a.size ≤ 1000000) (hb : b.size ≤ 1000000) :
    Calls Tryz.prog 280 #[.string a, .string b] w (Gave w (nodeB a.data.toList b.data.toList)) := by
  have h1 := lits_bsa w [2] (by decide)
  have al1 := below_alloc (Below.refl _ w) (.cells (bytesV [2]).toArray 5)
  have s1 : (w.alloc (.cells (bytesV [2]).toArray 5)).heap.size = w.heap.size + 1 := by simp
  have la : a.data.toList.length = a.size := by simp
  have lb : b.data.toList.length = b.size := by simp
  have HL := hid (show (nodeB a.data.toList b.data.toList).length ≤ 1000000000000 by rw [nodeB_length, la, lb]; omega)
  go_enter Tryz.func280, Tryz.ntmps280
  go_wp2_with (refine wpList_conv rfl (.tmp 6) rfl a rfl (by unfold maxLen; omega) ?_)
  intro g1 c1 w1 _ q1 b1
  rw [← s1] at b1
  go_wp2_with (refine wpList_conv rfl (.tmp 8) rfl b rfl (by unfold maxLen; omega) ?_)
  intro g2 c2 w2 _ q2 b2
  have HC := hid (concat3 (w := w2) (p1 := (some ⟨w.heap.size, 0, none⟩, 1, [2])) (p2 := (some ⟨g1, 0, none⟩, c1, a.data.toList)) (p3 := (some ⟨g2, 0, none⟩, c2, b.data.toList)) (L := nodeB a.data.toList b.data.toList) (by simp [nodeB]) ((h1.below b1).below b2) (q1.below b2) q2 HL.out)
  have bb := below_then (al1.trans (b1.mono al1.size)) b2
  clear h1 al1 b1 b2 q1 q2 la lb
  go_wp2_with fail
  refine HC.out.mono ?_
  rintro e w3 ⟨A3, c3, rfl, r3, b3⟩
  go_wp2
  go_ret
  exact ⟨A3, c3, rfl, r3.lower bb.size, below_then bb b3⟩
set_option maxHeartbeats 1600000 in
theorem linkBytes_any {w : World} {a b c : ByteArray} (ha : a.size ≤ 1000000) (hb : b.size ≤ 1000000) (hc : c.size ≤ 1000000) :
    Calls Tryz.prog 104 #[.string a, .string b, .string c] w (Gave w (linkB a.data.toList b.data.toList c.data.toList)) := by
  have h1 := lits_bsa w [3] (by decide)
  have al1 := below_alloc (Below.refl _ w) (.cells (bytesV [3]).toArray 5)
  have s1 : (w.alloc (.cells (bytesV [3]).toArray 5)).heap.size = w.heap.size + 1 := by simp
  have la : a.data.toList.length = a.size := by simp
  have lb : b.data.toList.length = b.size := by simp
  have lc : c.data.toList.length = c.size := by simp
  have HL := hid (show (linkB a.data.toList b.data.toList c.data.toList).length ≤ 1000000000000 by rw [linkB_length, la, lb, lc]; omega)
  go_enter Tryz.func104, Tryz.ntmps104
  go_wp2_with (refine wpList_conv rfl (.tmp 8) rfl a rfl (by unfold maxLen; omega) ?_)
  intro g1 c1 w1 _ q1 b1
  rw [← s1] at b1
  go_wp2_with (refine wpList_conv rfl (.tmp 10) rfl b rfl (by unfold maxLen; omega) ?_)
  intro g2 c2 w2 _ q2 b2
  go_wp2_with (refine wpList_conv rfl (.tmp 12) rfl c rfl (by unfold maxLen; omega) ?_)
  intro g3 c3 w3 _ q3 b3
  have HC := hid (concat4 (w := w3) (p1 := (some ⟨w.heap.size, 0, none⟩, 1, [3])) (p2 := (some ⟨g1, 0, none⟩, c1, a.data.toList)) (p3 := (some ⟨g2, 0, none⟩, c2, b.data.toList)) (p4 := (some ⟨g3, 0, none⟩, c3, c.data.toList)) (L := linkB a.data.toList b.data.toList c.data.toList) (by simp [linkB]) (((h1.below b1).below b2).below b3) ((q1.below b2).below b3) (q2.below b3) q3 HL.out)
  have bb := below_then (below_then (al1.trans (b1.mono al1.size)) b2) b3
  clear h1 al1 b1 b2 b3 q1 q2 q3 la lb lc
  go_wp2_with fail
  refine HC.out.mono ?_
  rintro e w4 ⟨A4, c4, rfl, r4, b4⟩
  go_wp2
  go_ret
  exact ⟨A4, c4, rfl, r4.lower bb.size, below_then bb b4⟩
set_option maxHeartbeats 1600000 in
theorem leafBytes_any {w : World} {a : ByteArray} {A : Option Addr} {c : Nat} {r : List UInt8} (ha : a.size ≤ 1000000) (hr : r.length ≤ 1000000) (hA : BSA w A c r) :
    Calls Tryz.prog 233 #[.string a, .slice A r.length c] w (Gave w (leafB a.data.toList r)) := by
  have la : a.data.toList.length = a.size := by simp
  obtain ⟨N, hN⟩ : ∃ N, N = a.size := ⟨_, rfl⟩
  have nb : numBytes N 4 = [UInt8.ofNat (N / 16777216), UInt8.ofNat (N / 65536), UInt8.ofNat (N / 256), UInt8.ofNat (N / 1)] := rfl
  have f3 : ((N : Int) / 16777216) % 256 = ((UInt8.ofNat (N / 16777216)).toNat : Int) := byte_div N 24
  have f2 : ((N : Int) / 65536) % 256 = ((UInt8.ofNat (N / 65536)).toNat : Int) := byte_div N 16
  have f1 : ((N : Int) / 256) % 256 = ((UInt8.ofNat (N / 256)).toNat : Int) := byte_div N 8
  have f0 : (N : Int) % 256 = ((UInt8.ofNat (N / 1)).toNat : Int) := by simp
  obtain ⟨x3, h3⟩ : ∃ x, x = UInt8.ofNat (N / 16777216) := ⟨_, rfl⟩
  obtain ⟨x2, h2⟩ : ∃ x, x = UInt8.ofNat (N / 65536) := ⟨_, rfl⟩
  obtain ⟨x1, h1⟩ : ∃ x, x = UInt8.ofNat (N / 256) := ⟨_, rfl⟩
  obtain ⟨x0, h0⟩ : ∃ x, x = UInt8.ofNat (N / 1) := ⟨_, rfl⟩
  rw [← h3, ← h2, ← h1, ← h0] at nb
  rw [← h3] at f3
  rw [← h2] at f2
  rw [← h1] at f1
  rw [← h0] at f0
  have q0 := lits_bsa w [1, x3, x2, x1, x0] (by simp)
  have al1 := below_alloc (Below.refl _ w) (.cells (bytesV [1, x3, x2, x1, x0]).toArray 5)
  have s1 : (w.alloc (.cells (bytesV [1, x3, x2, x1, x0]).toArray 5)).heap.size = w.heap.size + 1 := by simp
  have HL := hid (show (leafB a.data.toList r).length ≤ 1000000000000 by rw [leafB_length, la]; omega)
  have hE := hid (show [1, x3, x2, x1, x0] ++ a.data.toList ++ r = leafB a.data.toList r by unfold leafB; rw [la, ← hN, nb]; simp)
  have hz : (a.size : Int) = (N : Int) := by omega
  have hr1 := hA.below al1
  have ha' : a.size ≤ maxLen := by unfold maxLen; omega
  clear h3 h2 h1 h0 nb la ha hN hr
  go_enter Tryz.func233, Tryz.ntmps233
  go_wp2_with (refine wpList_conv rfl (.tmp 20) rfl a rfl ha' ?_)
  intro g1 c1 w1 _ q1 b1
  rw [← s1] at b1
  have HC := hid (concat3 (w := w1) (p1 := (some ⟨w.heap.size, 0, none⟩, 5, [1, x3, x2, x1, x0])) (p2 := (some ⟨g1, 0, none⟩, c1, a.data.toList)) (p3 := (A, c, r)) (L := leafB a.data.toList r) hE.out (q0.below b1) q1 (hr1.below b1) HL.out)
  have bb := al1.trans (b1.mono al1.size)
  clear q0 al1 b1 q1 hr1
  go_wp2_with fail
  refine HC.out.mono ?_
  rintro e w3 ⟨A3, c3, rfl, r3, b3⟩
  go_wp2
  go_ret
  exact ⟨A3, c3, rfl, r3.lower bb.size, below_then bb b3⟩
theorem add_at (g o i : Nat) : (⟨g, o, none⟩ : Addr).add i = ⟨g, o + i, none⟩ := by unfold Addr.add; split <;> simp_all
theorem BSA.place {w : World} {A : Option Addr} {c : Nat} {l : List UInt8} (h : BSA w A c l) (h0 : 0 < l.length) : ∃ g o, A = some ⟨g, o, none⟩ := by
  obtain ⟨ad, rfl, c0⟩ := h.cell 0 h0
  obtain ⟨g, o, sp⟩ := ad
  have hs : sp = none := by simpa [Addr.add] using World.cell?_spot c0
  subst hs
  exact ⟨g, o, rfl⟩
theorem BSA.at_ {w : World} {g o c : Nat} {l : List UInt8} (h : BSA w (some ⟨g, o, none⟩) c l) (k : Nat) (hk : k < l.length) : w.cell? ⟨g, o + k, none⟩ = some (.int .u8 (l[k].toNat : Int)) := by
  have := h.2.2.2 _ rfl k hk
  rwa [add_at] at this
theorem BSA.head {w : World} {A : Option Addr} {c : Nat} {l : List UInt8} (h : BSA w A c l) (k : Nat) : BSA w A c (l.take k) := by
  obtain ⟨h1, h2, h3, h4⟩ := h
  refine ⟨by rw [List.length_take]; omega, h2, h3, fun ad e j hj => ?_⟩
  rw [List.getElem_take]
  exact h4 ad e j (by rw [List.length_take] at hj; omega)
theorem clone_gave {w : World} {A : Option Addr} {c n : Nat} {x : List UInt8} (h1 : x.length = n) (hx : BSA w A c x) (hbig : x.length ≤ 1000000000000) :
    Calls Tryz.prog 18 #[.slice A n c] w (Gave w x) := by
  subst h1
  refine (clone_any hx (by omega)).mono ?_
  rintro e w' ⟨A', c', rfl, m1, m2, m3⟩
  exact ⟨A', c', rfl, Made.row ⟨m1, m2, m3⟩ rfl, m3⟩
theorem bsz (s : ByteArray) : s.data.toList.length = s.size := by simp
theorem sum256_length (p : List UInt8) : (sum256 p).length = 32 := by
  have e : sum256 p = bytesOf (run first (padded p)).1 := rfl
  rw [e, bytesOf_length, run_length rfl _]
def dig (p : List UInt8) : ByteArray := ⟨(sum256 p).toArray⟩
theorem sum_dig {w : World} {A : Option Addr} {c : Nat} {p : List UInt8} {n : Nat} (hn : p.length = n) (hT : Table w) (hp : BSA w A c p) (hb : p.length ≤ 1000000000000) :
    Calls Tryz.prog 31 #[.slice A n c] w fun e w' => e = .returned (.string (dig p)) ∧ Below w.heap.size w w' := by subst hn; exact sum_any hT hp hb
theorem rsum_dig {w : World} {A : Option Addr} {c : Nat} {p : List UInt8} {n : Nat} (hn : p.length = n) (hp : BSA w A c p) (hb : p.length ≤ 1000000000000) :
    Calls Tryz.prog 51 #[.slice A n c] w fun e w' => e = .returned (.string (dig p)) ∧ Below w.heap.size w w' := by subst hn; exact rsum_any hp hb
theorem dig_list (p : List UInt8) : (dig p).data.toList = sum256 p := by simp [dig]
theorem dig_size (p : List UInt8) : (dig p).size = 32 := by
  have h : (dig p).size = (sum256 p).length := by simp [dig, ByteArray.size]
  rw [h]; exact sum256_length p
set_option maxHeartbeats 1600000 in
theorem leaf_any {w : World} (hT : Table w) {a : ByteArray} {A : Option Addr} {c : Nat} {r : List UInt8} (ha : a.size ≤ 1000000) (hr : r.length ≤ 1000000) (hA : BSA w A c r) :
    Calls Tryz.prog 209 #[.string a, .slice A r.length c] w fun e w' => e = .returned (.string (dig (leafB a.data.toList r))) ∧ Below w.heap.size w w' := by
  have HL := hid (leafBytes_any ha hr hA)
  have hl : (leafB a.data.toList r).length ≤ 1000000000000 := by rw [leafB_length]; simp; omega
  obtain ⟨L, hL⟩ : ∃ L, L = leafB a.data.toList r := ⟨_, rfl⟩
  rw [← hL] at HL hl ⊢
  have hl' := hid hl
  clear hL hA hl
  go_enter Tryz.func209, Tryz.ntmps209
  go_wp2_with fail
  refine HL.out.mono ?_
  rintro e w1 ⟨A1, c1, rfl, r1, b1⟩
  have HS := hid (sum_dig rfl (hT.below b1) r1.bsa hl'.out)
  go_wp2_with fail
  refine HS.out.mono ?_
  rintro e w2 ⟨rfl, b2⟩
  go_wp2
  go_ret
  exact ⟨rfl, below_then b1 b2⟩
set_option maxHeartbeats 1600000 in
theorem node_any {w : World} (hT : Table w) {a b : ByteArray} (ha : a.size ≤ 1000000) (hb : b.size ≤ 1000000) :
    Calls Tryz.prog 261 #[.string a, .string b] w fun e w' => e = .returned (.string (dig (nodeB a.data.toList b.data.toList))) ∧ Below w.heap.size w w' := by
  have HL := hid (nodeBytes_any (w := w) ha hb)
  have hl : (nodeB a.data.toList b.data.toList).length ≤ 1000000000000 := by rw [nodeB_length]; simp; omega
  obtain ⟨L, hL⟩ : ∃ L, L = nodeB a.data.toList b.data.toList := ⟨_, rfl⟩
  rw [← hL] at HL hl ⊢
  have hl' := hid hl
  clear hL hl
  go_enter Tryz.func261, Tryz.ntmps261
  go_wp2_with fail
  refine HL.out.mono ?_
  rintro e w1 ⟨A1, c1, rfl, r1, b1⟩
  have HS := hid (sum_dig rfl (hT.below b1) r1.bsa hl'.out)
  go_wp2_with fail
  refine HS.out.mono ?_
  rintro e w2 ⟨rfl, b2⟩
  go_wp2
  go_ret
  exact ⟨rfl, below_then b1 b2⟩
set_option maxHeartbeats 1600000 in
theorem link_any {w : World} (hT : Table w) {a b : ByteArray} {A : Option Addr} {c : Nat} {r : List UInt8} (ha : a.size ≤ 1000000) (hb : b.size ≤ 1000000) (hr : r.length ≤ 1000000) (hA : BSA w A c r) :
    Calls Tryz.prog 57 #[.string a, .string b, .slice A r.length c] w fun e w' => e = .returned (.string (dig (linkB a.data.toList b.data.toList (sum256 r)))) ∧ Below w.heap.size w w' := by
  have HS := hid (sum_dig rfl hT hA (by omega))
  have HL := hid (fun w : World => linkBytes_any (w := w) ha hb (c := dig r) (by rw [dig_size]; omega))
  rw [dig_list] at HL
  have hl : (linkB a.data.toList b.data.toList (sum256 r)).length ≤ 1000000000000 := by rw [linkB_length, sum256_length]; simp; omega
  obtain ⟨L, hL⟩ : ∃ L, L = linkB a.data.toList b.data.toList (sum256 r) := ⟨_, rfl⟩
  rw [← hL] at HL hl ⊢
  have hl' := hid hl
  clear hL hl hA
  go_enter Tryz.func57, Tryz.ntmps57
  go_wp2_with fail
  refine HS.out.mono ?_
  rintro e w0 ⟨rfl, b0⟩
  go_wp2_with fail
  refine (HL.out _).mono ?_
  rintro e w1 ⟨A1, c1, rfl, r1, b1⟩
  have HS' := hid (sum_dig rfl (hT.below (below_then b0 b1)) r1.bsa hl'.out)
  go_wp2_with fail
  refine HS'.out.mono ?_
  rintro e w2 ⟨rfl, b2⟩
  go_wp2
  go_ret
  exact ⟨rfl, below_then (below_then b0 b1) b2⟩
set_option maxHeartbeats 1600000 in
theorem empty_any {w : World} (hT : Table w) : Calls Tryz.prog 30 #[] w fun e w' => e = .returned (.string (dig [0])) ∧ Below w.heap.size w w' := by
  have q0 := lits_bsa w [0] (by simp)
  have al1 := below_alloc (Below.refl _ w) (.cells (bytesV [0]).toArray 5)
  have HS := hid (sum_dig (n := 1) rfl (hT.below al1) q0 (by simp))
  clear q0
  go_enter Tryz.func30, Tryz.ntmps30
  go_wp2_with fail
  refine HS.out.mono ?_
  rintro e w2 ⟨rfl, b2⟩
  go_wp2
  go_ret
  exact ⟨rfl, below_then al1 b2⟩
set_option maxHeartbeats 1600000 in
theorem rempty_any {w : World} : Calls Tryz.prog 25 #[] w fun e w' => e = .returned (.string (dig [0])) ∧ Below w.heap.size w w' := by
  have q0 := lits_bsa w [0] (by simp)
  have al1 := below_alloc (Below.refl _ w) (.cells (bytesV [0]).toArray 5)
  have HS := hid (rsum_dig (n := 1) rfl q0 (by simp))
  clear q0
  go_enter Tryz.func25, Tryz.ntmps25
  go_wp2_with fail
  refine HS.out.mono ?_
  rintro e w2 ⟨rfl, b2⟩
  go_wp2
  go_ret
  exact ⟨rfl, below_then al1 b2⟩
def GaveB (w : World) (L : List UInt8) (e : Ending) (w' : World) : Prop := ∃ A' c', e = .returned (.slice A' L.length c') ∧ BSA w' A' c' L ∧ Below w.heap.size w w'
set_option maxHeartbeats 1600000 in
theorem rlinkBytes_any {w : World} {a b d : ByteArray} (ha : a.size ≤ 1000000) (hb : b.size ≤ 1000000) (hd : d.size ≤ 1000000) :
    Calls Tryz.prog 52 #[.string a, .string b, .string d] w (GaveB w (linkB a.data.toList b.data.toList d.data.toList)) := by
  have la : a.data.toList.length = a.size := by simp
  have lb : b.data.toList.length = b.size := by simp
  have ld : d.data.toList.length = d.size := by simp
  have hE : ((⟨#[3]⟩ : ByteArray) ++ a ++ b ++ d).data.toList = linkB a.data.toList b.data.toList d.data.toList := by simp [linkB]
  have hl := linkB_length a.data.toList b.data.toList d.data.toList
  rw [la, lb, ld] at hl
  have hm : ((⟨#[3]⟩ : ByteArray) ++ a ++ b ++ d).size ≤ maxLen := by
    rw [← bsz, hE, hl]; unfold maxLen; omega
  have HL := hid hl
  have HE := hid hE
  clear la lb ld hl hE
  go_enter Tryz.func52, Tryz.ntmps52
  go_wp2_with (refine wpList_conv rfl (.tmp 12) rfl ((⟨#[3]⟩ : ByteArray) ++ a ++ b ++ d) rfl hm ?_)
  intro g c w1 _ q b1
  go_wp2
  go_ret
  exact ⟨some ⟨g, 0, none⟩, c, by rw [HL.out]; rfl, by first | (rw [← HE.out]; exact q) | (simpa [linkB] using q), b1⟩
set_option maxHeartbeats 1600000 in
theorem rlink_any {w : World} {a b : ByteArray} {A : Option Addr} {c : Nat} {r : List UInt8} (ha : a.size ≤ 1000000) (hb : b.size ≤ 1000000) (hr : r.length ≤ 1000000) (hA : BSA w A c r) :
    Calls Tryz.prog 24 #[.string a, .string b, .slice A r.length c] w fun e w' => e = .returned (.string (dig (linkB a.data.toList b.data.toList (sum256 r)))) ∧ Below w.heap.size w w' := by
  have HS := hid (rsum_dig rfl hA (by omega))
  have HL := hid (fun w : World => rlinkBytes_any (w := w) ha hb (d := dig r) (by rw [dig_size]; omega))
  rw [dig_list] at HL
  have hl : (linkB a.data.toList b.data.toList (sum256 r)).length ≤ 1000000000000 := by rw [linkB_length, sum256_length]; simp; omega
  obtain ⟨L, hL⟩ : ∃ L, L = linkB a.data.toList b.data.toList (sum256 r) := ⟨_, rfl⟩
  rw [← hL] at HL hl ⊢
  have hl' := hid hl
  clear hL hl hA
  go_enter Tryz.func24, Tryz.ntmps24
  go_wp2_with fail
  refine HS.out.mono ?_
  rintro e w0 ⟨rfl, b0⟩
  go_wp2_with fail
  refine (HL.out _).mono ?_
  rintro e w1 ⟨A1, c1, rfl, r1, b1⟩
  have HS' := hid (rsum_dig rfl r1 hl'.out)
  go_wp2_with fail
  refine HS'.out.mono ?_
  rintro e w2 ⟨rfl, b2⟩
  go_wp2
  go_ret
  exact ⟨rfl, below_then (below_then b0 b1) b2⟩
theorem lits_row (w : World) {B : Nat} (hB : B ≤ w.heap.size) (l : List UInt8) (hl : l.length ≤ 1000) : Row (w.alloc (.cells (bytesV l).toArray 5)) B (some ⟨w.heap.size, 0, none⟩) l.length l :=
  World.ownsRow_lit (e := 5) (size := 1) w (bytesV l).toArray l.length hB (by unfold maxLen; omega) (by simp [bytesV])
theorem wpList_appS {w : World} {ops : Array Oper} {rest : List Oper} {o : Oper} {a : Act} {Q : Exit → Act → World → Prop} (hgd : o.guard = none) (s x : Operand)
    (ho : o.op = .call { callee := .builtin .append, args := #[s, x], argTypes := #[36, 9] }) (B : Nat) (hB : B ≤ w.heap.size)
    (R : Option Addr) (c : Nat) (l : List UInt8) (hs : a.eval s = .slice R l.length c) (hR : Row w B R c l) (q : ByteArray) (hx : a.eval x = .string q)
    (h47 : l.length + q.size ≤ 140737488355328) (n : Nat) (hn : l.length + q.size = n)
    (h : ∀ R' c' w', Row w' B R' c' (l ++ q.data.toList) → Below B w w' → wpList Tryz.prog ops Q rest (a.put o.dst (.slice R' n c')) w') : wpList Tryz.prog ops Q (o :: rest) a w := by
  subst hn
  obtain ⟨i0, hi, hz0, hz1, hz2⟩ := info_parts infU8'
  refine Lib.wpList_append_own_string w hgd s x 36 9 ho B 5 i0 Tryz.underlying36 Tryz.underlying9 hi hz0 hz1 hz2 _ l.length (bytesV l) hs hR q hx (by unfold maxLen; omega) h47 hB ?_
  intro v' w' k1 k2 _
  have e1 : bytesV l ++ Lib.strCells q = bytesV (l ++ q.data.toList) := by rw [bytesV_append]; rfl
  rw [e1] at k1
  have hform : ∃ A' c', v' = .slice A' (l.length + q.size) c' := by
    rcases k1.2 with ⟨e, h0⟩ | ⟨g', cap', cur', e', _⟩
    · rw [e, h0]; exact ⟨_, _, rfl⟩
    · exact ⟨_, _, e'⟩
  obtain ⟨A', c', rfl⟩ := hform
  exact h A' c' w' (by unfold Row; rw [List.length_append, bsz]; exact k1) ((Below.refl B w).grown k2 hB (fun k hk => (hR.lt k hk).1))
theorem conv_bsa {w : World} {A : Option Addr} {c : Nat} {l : List UInt8} (h : BSA w A c l) (h0 : 0 < l.length) : (convert 36 9 (.slice A l.length c)).run Tryz.prog w = .ok (.string ⟨l.toArray⟩) w := by
  obtain ⟨ad, rfl, c0⟩ := h.cell 0 h0
  obtain ⟨g, o, sp⟩ := ad
  have hs : sp = none := by simpa [Addr.add] using World.cell?_spot c0
  subst hs
  have hadd : ∀ i, (⟨g, o, none⟩ : Addr).add i = ⟨g, o + i, none⟩ := fun i => by unfold Addr.add; split <;> simp_all
  rw [run_convert_bytes_arg w 36 5 Tryz.underlying36 Tryz.underlying5 g o l.length c (l.map fun x => (x.toNat : Int)) (by simp) (fun i hi => ?_) 9 Tryz.underlying9]
  · congr 2
    unfold strOfNums
    congr 2
    rw [List.map_map]
    conv => rhs; rw [← List.map_id l]
    apply List.map_congr_left
    intro x _
    simp
  · have := h.2.2.2 _ rfl i hi
    rw [hadd] at this
    rw [this]
    simp [List.getD_eq_getElem?_getD, hi]
theorem Row.form {w : World} {B c : Nat} {A : Option Addr} {l : List UInt8} (h : Row w B A c l) : A = none ∨ ∃ g, A = some ⟨g, 0, none⟩ := by
  rcases h.2 with ⟨e, _⟩ | ⟨g, cap, cur, e, _⟩
  · exact .inl (Value.slice.inj e).1
  · exact .inr ⟨g, (Value.slice.inj e).1⟩
theorem conv_any {w : World} {A : Option Addr} {c n : Nat} {l : List UInt8} (hn : l.length = n) (h : BSA w A c l) : (convert 36 9 (.slice A n c)).run Tryz.prog w = .ok (.string (strB l)) w := by
  subst hn
  rcases Nat.eq_zero_or_pos l.length with h0 | h0
  · obtain rfl := List.eq_nil_of_length_eq_zero h0
    rw [run_convert_bytes_string w 36 9 5 A _ c Tryz.underlying36 Tryz.underlying5 Tryz.underlying9]
    cases A <;> simp [Conv.bytesToString, loadCells]
    all_goals rfl
  · exact conv_bsa h h0
end Go.Proofs.YtnidgljkbmceaaaGreatDoor
namespace Go.Proofs.YtnidgljkbmceaaaGreatDoor
open Go.RowKit PrintLast Go.Maps
theorem named_one {w : World} {s : ByteArray} (h1 : 1 ≤ s.size) (h2 : s.size ≤ 20) : Calls Tryz.prog 101 #[.string s] w fun e w' => e = .returned (.bool true) ∧ w = w' := by
  have e1 : decide ((s.size : Int) ≥ 1) = true := by simp; omega
  have e2 : decide ((s.size : Int) ≤ 20) = true := by simp; omega
  clear h1 h2
  go_enter Tryz.func101, Tryz.ntmps101
  go_wp2
  go_ret
  exact ⟨rfl, rfl⟩
theorem skey : Keyed Tryz.prog 9 := string_keyed Tryz.underlying9
theorem zeroBool (w : World) : (zeroValue 4).run Tryz.prog w = .ok (.bool false) w := by kernel_rfl
theorem plainElem_bool_inv {H : Type} {P : Program} {e : TypeId} (he : P.underlying e = some .bool) {v : Value} {z : DataW H × List MemPlace} (h : plainElem P e v = some z) : ∃ a, v = .bool a ∧ z = (.lit (.bool a), []) := by
  unfold plainElem at h
  rw [he] at h
  cases v <;> simp at h
  exact ⟨_, rfl, h.symm⟩
set_option maxRecDepth 100000 in
theorem look_empty {w : World} {b : Nat} {s : ByteArray} (h : w.ownsMap Tryz.prog 9 (plainElem (H := Unit) Tryz.prog 4) b 0 (.map [])) (hs : s.size ≤ maxLen) :
    (Instr.lookup 193 (.map (some b)) (.string s) false).run Tryz.prog w = .ok (.bool false) w := by
  obtain ⟨v, ps, hrun, hv⟩ := h.lookup skey Tryz.underlying193 (zeroBool w) (plainElem_bool Tryz.underlying4 false) (WideMaps.keyOf_string_mk Tryz.underlying9 hs)
  rw [hrun]
  have e : DataW.atKey (H := Unit) (.map []) (.string s.data.toList) (.lit (.bool false)) = .lit (.bool false) := rfl
  rw [e] at hv
  obtain ⟨a, rfl, hz⟩ := plainElem_bool_inv Tryz.underlying4 hv
  have h2 := congrArg Prod.fst hz
  injection h2 with h3
  injection h3 with h4
  rw [h4]
set_option maxRecDepth 100000 in
theorem cname_any {w : World} {s : ByteArray} {kd : Int} {nl : Bool} : Calls Tryz.prog 103 #[.agg #[.string s, .int .u8 kd, .bool nl]] w fun e w' => e = .returned (.string s) ∧ Below w.heap.size w w' := by
  go_enter Tryz.func103, Tryz.ntmps103
  go_wp2
  go_ret
  exact ⟨rfl, by go_grown⟩
set_option maxRecDepth 100000 in
set_option maxHeartbeats 1000000 in
theorem unlikeC_one {w : World} {C : Nat} {s : ByteArray} {kd : Int} {nl : Bool} (h1 : 1 ≤ s.size) (h2 : s.size ≤ 20) (c0 : w.cell? ⟨C, 0, none⟩ = some (.string s)) (c1 : w.cell? ⟨C, 1, none⟩ = some (.int .u8 kd)) (c2 : w.cell? ⟨C, 2, none⟩ = some (.bool nl)) {c : Nat} :
    Calls Tryz.prog 102 #[.slice (some ⟨C, 0, none⟩) 1 c, .func (.func 103) #[] #[]] w fun e w' => e = .returned (.bool true) ∧ Below w.heap.size w w' := by
  have hs9 : s.size ≤ maxLen := by unfold maxLen; omega
  have M0 := World.ownsMap_made (H := Unit) w Tryz.prog 9 (plainElem (H := Unit) Tryz.prog 4)
  obtain ⟨b, hb⟩ : ∃ b, b = w.heap.size := ⟨_, rfl⟩
  rw [← hb] at M0
  have B0 := below_alloc (Below.refl _ w) (.map #[] 0)
  have HB := hid hb
  have MM := hid M0
  have BB := hid B0
  have d0 := below_cell B0 c0
  have d1 := below_cell B0 c1
  have d2 := below_cell B0 c2
  clear M0 hb B0 c0 c1 c2
  have hmm := @run_makeMap Tryz.prog
  go_enter Tryz.func102, Tryz.ntmps102
  go_wp2
  rw [← HB.out]
  generalize w.alloc (.map #[] 0) = w1 at *
  refine wp_loop_rounds 2 ?_
  rw [rounds_succ]
  have HC := hid (cname_any (w := w1.alloc (.cells #[.string s, .int .u8 kd, .bool nl] 69)) (s := s) (kd := kd) (nl := nl))
  have AL := hid (below_alloc (Below.refl _ w1) (.cells #[.string s, .int .u8 kd, .bool nl] 69))
  go_wp2_with fail
  refine HC.out.mono ?_
  rintro e w2 ⟨rfl, b2⟩
  have B2 := hid (below_then AL.out b2)
  clear HC AL b2 d0 d1 d2
  have HN := hid (named_one (w := w2) h1 h2)
  go_wp2_with fail
  refine HN.out.mono ?_
  rintro e w3 ⟨rfl, rfl⟩
  clear HN
  have M2 := hid (MM.out.kept (row := none) ⟨B2.out.os, B2.out.tape, B2.out.output, B2.out.size, fun k hk _ => B2.out.block k hk⟩ (by simp))
  have lk := look_empty M2.out hs9
  have HK := hid (WideMaps.keyOf_string_mk Tryz.underlying9 hs9)
  go_wp2_with (first
    | (at_mapUpdate; refine wpList_mapUpdate_own _ rfl _ _ _ 193 rfl 9 4 skey Tryz.underlying193 _ b 0 _ rfl M2.out (by unfold maxLen; omega) _ _ _ rfl rfl HK.out _ [] (plainElem_bool Tryz.underlying4 true) ?_; intro w4 hown1 hgrow1)
    | go_in)
  clear lk
  rw [rounds_succ]
  go_wp2
  go_ret
  refine ⟨rfl, ?_⟩
  have B3 := below_then BB.out B2.out
  exact B3.grown hgrow1 B3.size (fun j hj => by cases hj; rw [HB.out]; exact Nat.le_refl _)
set_option maxRecDepth 100000 in
theorem tname_any {w : World} {s : ByteArray} {A : Option Addr} {n m : Nat} {ks : Int} : Calls Tryz.prog 55 #[.agg #[.string s, .slice A n m, .int .i64 ks]] w fun e w' => e = .returned (.string s) ∧ Below w.heap.size w w' := by
  go_enter Tryz.func55, Tryz.ntmps55
  go_wp2
  go_ret
  exact ⟨rfl, by go_grown⟩
set_option maxRecDepth 100000 in
set_option maxHeartbeats 1000000 in
theorem unlikeT_one {w : World} {C : Nat} {s : ByteArray} {A : Option Addr} {n m : Nat} {ks : Int} (h1 : 1 ≤ s.size) (h2 : s.size ≤ 20) (c0 : w.cell? ⟨C, 0, none⟩ = some (.string s)) (c1 : w.cell? ⟨C, 1, none⟩ = some (.slice A n m)) (c2 : w.cell? ⟨C, 2, none⟩ = some (.int .i64 ks)) {c : Nat} :
    Calls Tryz.prog 54 #[.slice (some ⟨C, 0, none⟩) 1 c, .func (.func 55) #[] #[]] w fun e w' => e = .returned (.bool true) ∧ Below w.heap.size w w' := by
  have hs9 : s.size ≤ maxLen := by unfold maxLen; omega
  have M0 := World.ownsMap_made (H := Unit) w Tryz.prog 9 (plainElem (H := Unit) Tryz.prog 4)
  obtain ⟨b, hb⟩ : ∃ b, b = w.heap.size := ⟨_, rfl⟩
  rw [← hb] at M0
  have B0 := below_alloc (Below.refl _ w) (.map #[] 0)
  have HB := hid hb
  have MM := hid M0
  have BB := hid B0
  have d0 := below_cell B0 c0
  have d1 := below_cell B0 c1
  have d2 := below_cell B0 c2
  clear M0 hb B0 c0 c1 c2
  have hmm := @run_makeMap Tryz.prog
  go_enter Tryz.func54, Tryz.ntmps54
  go_wp2
  rw [← HB.out]
  generalize w.alloc (.map #[] 0) = w1 at *
  refine wp_loop_rounds 2 ?_
  rw [rounds_succ]
  have HC := hid (tname_any (w := w1.alloc (.cells #[.string s, .slice A n m, .int .i64 ks] 72)) (s := s) (A := A) (n := n) (m := m) (ks := ks))
  have AL := hid (below_alloc (Below.refl _ w1) (.cells #[.string s, .slice A n m, .int .i64 ks] 72))
  go_wp2_with fail
  refine HC.out.mono ?_
  rintro e w2 ⟨rfl, b2⟩
  have B2 := hid (below_then AL.out b2)
  clear HC AL b2 d0 d1 d2
  have HN := hid (named_one (w := w2) h1 h2)
  go_wp2_with fail
  refine HN.out.mono ?_
  rintro e w3 ⟨rfl, rfl⟩
  clear HN
  have M2 := hid (MM.out.kept (row := none) ⟨B2.out.os, B2.out.tape, B2.out.output, B2.out.size, fun k hk _ => B2.out.block k hk⟩ (by simp))
  have lk := look_empty M2.out hs9
  have HK := hid (WideMaps.keyOf_string_mk Tryz.underlying9 hs9)
  go_wp2_with (first
    | (at_mapUpdate; refine wpList_mapUpdate_own _ rfl _ _ _ 193 rfl 9 4 skey Tryz.underlying193 _ b 0 _ rfl M2.out (by unfold maxLen; omega) _ _ _ rfl rfl HK.out _ [] (plainElem_bool Tryz.underlying4 true) ?_; intro w4 hown1 hgrow1)
    | go_in)
  clear lk
  rw [rounds_succ]
  go_wp2
  go_ret
  refine ⟨rfl, ?_⟩
  have B3 := below_then BB.out B2.out
  exact B3.grown hgrow1 B3.size (fun j hj => by cases hj; rw [HB.out]; exact Nat.le_refl _)
structure TabAt (w : World) (T C : Nat) : Prop where
  name : w.cell? ⟨T, 0, none⟩ = some (.string ⟨#[116, 48]⟩)
  cols : w.cell? ⟨T, 1, none⟩ = some (.slice (some ⟨C, 0, none⟩) 1 1)
  keys : w.cell? ⟨T, 2, none⟩ = some (.int .i64 1)
  cname : w.cell? ⟨C, 0, none⟩ = some (.string ⟨#[97]⟩)
  ckind : w.cell? ⟨C, 1, none⟩ = some (.int .u8 1)
  cnull : w.cell? ⟨C, 2, none⟩ = some (.bool false)
theorem TabAt.below {w w' : World} {T C : Nat} (h : TabAt w T C) (hb : Below w.heap.size w w') : TabAt w' T C :=
  ⟨below_cell hb h.name, below_cell hb h.cols, below_cell hb h.keys, below_cell hb h.cname, below_cell hb h.ckind, below_cell hb h.cnull⟩
set_option maxRecDepth 100000 in
set_option maxHeartbeats 1000000 in
theorem columns_one {w : World} {T C : Nat} (h : TabAt w T C) : Calls Tryz.prog 56 #[.agg #[.string ⟨#[116, 48]⟩, .slice (some ⟨C, 0, none⟩) 1 1, .int .i64 1]] w fun e w' => e = .returned (.bool true) ∧ Below w.heap.size w w' := by
  have HH := hid h
  have A1 := hid (below_alloc (Below.refl _ w) (.cells #[.string ⟨#[116, 48]⟩, .slice (some ⟨C, 0, none⟩) 1 1, .int .i64 1] 72))
  have k0 := (h.below A1.out).cname
  have k1 := (h.below A1.out).ckind
  have k2 := (h.below A1.out).cnull
  clear h
  go_enter Tryz.func56, Tryz.ntmps56
  go_wp2
  refine wp_loop_rounds 2 ?_
  rw [rounds_succ]
  go_wp2
  rw [rounds_succ]
  obtain ⟨wz, hwz⟩ : ∃ wz, wz = (w.alloc (.cells #[.string ⟨#[116, 48]⟩, .slice (some ⟨C, 0, none⟩) 1 1, .int .i64 1] 72)).alloc (.cells #[.string ⟨#[97]⟩, .int .u8 1, .bool false] 69) := ⟨_, rfl⟩
  have A2 := hid (show Below w.heap.size w wz by rw [hwz]; exact below_alloc A1.out _)
  have H2 := HH.out.below A2.out
  have HU := hid (unlikeC_one (w := wz) (C := C) (s := ⟨#[97]⟩) (kd := 1) (nl := false) (c := 1) (by decide) (by decide) H2.cname H2.ckind H2.cnull)
  rw [hwz] at HU
  clear H2 k0 k1 k2
  go_wp2_with fail
  refine HU.out.mono ?_
  rintro e w2 ⟨rfl, b2⟩
  rw [← hwz] at b2
  have BF := below_then A2.out b2
  clear hwz
  go_wp2
  go_ret
  exact ⟨rfl, BF⟩
set_option maxRecDepth 100000 in
set_option maxHeartbeats 1000000 in
theorem right_one {w : World} {T C c : Nat} (h : TabAt w T C) : Calls Tryz.prog 28 #[.slice (some ⟨T, 0, none⟩) 1 c] w fun e w' => e = .returned (.bool true) ∧ Below w.heap.size w w' := by
  have HH := hid h
  have HU := hid (unlikeT_one (w := w) (C := T) (s := ⟨#[116, 48]⟩) (c := c) (by decide) (by decide) h.name h.cols h.keys)
  clear h
  go_enter Tryz.func28, Tryz.ntmps28
  go_wp2_with fail
  refine HU.out.mono ?_
  rintro e w1 ⟨rfl, b1⟩
  clear HU
  have H1 := hid (HH.out.below b1)
  have k0 := H1.out.name
  have k1 := H1.out.cols
  have k2 := H1.out.keys
  obtain ⟨wz, hwz⟩ : ∃ wz, wz = w1.alloc (.cells #[.string ⟨#[116, 48]⟩, .slice (some ⟨C, 0, none⟩) 1 1, .int .i64 1] 72) := ⟨_, rfl⟩
  have A2 := hid (show Below w1.heap.size w1 wz by rw [hwz]; exact below_alloc (Below.refl _ w1) _)
  have BB := hid (below_then b1 A2.out)
  have HC := hid (columns_one (H1.out.below A2.out))
  rw [hwz] at HC
  clear b1
  go_wp2
  refine wp_loop_rounds 2 ?_
  rw [rounds_succ]
  go_wp2_with fail
  refine HC.out.mono ?_
  rintro e w2 ⟨rfl, b2⟩
  rw [← hwz] at b2
  have BF := below_then BB.out b2
  clear hwz k0 k1 k2 HC
  go_wp2
  rw [rounds_succ]
  go_wp2
  go_ret
  exact ⟨rfl, BF⟩
end Go.Proofs.YtnidgljkbmceaaaGreatDoor
namespace Go.Proofs.YtnidgljkbmceaaaGreatDoor
open Go.RowKit PrintLast
def ValsAt (w : World) (X : Nat) (n : Nat) : Prop := ∃ cs, w.heap[X]? = some (.cells cs 32 (0, 0)) ∧ cs[0]? = some (.int .u8 1) ∧ cs[1]? = some (.int .i64 (n : Int)) ∧ cs[2]? = some (.string ⟨#[]⟩)
theorem ValsAt.below {w w' : World} {X n : Nat} (h : ValsAt w X n) (hb : Below w.heap.size w w') : ValsAt w' X n := let ⟨cs, h0, h1⟩ := h; ⟨cs, below_heap hb h0, h1⟩
theorem ValsAt.keeps {w w' : World} {ts : List TypeId} {ms rs : List Nat} {X n : Nat} (h : ValsAt w X n) (hk : KT ts ms rs w w') (ht : 32 ∉ ts) : ValsAt w' X n := let ⟨cs, h0, h1⟩ := h; ⟨cs, hk.cells h0 ⟨ht, by decide⟩, h1⟩
theorem ValsAt.get {w : World} {X n : Nat} (h : ValsAt w X n) : w.cell? ⟨X, 0, none⟩ = some (.int .u8 1) ∧ w.cell? ⟨X, 1, none⟩ = some (.int .i64 (n : Int)) ∧ w.cell? ⟨X, 2, none⟩ = some (.string ⟨#[]⟩) := let ⟨_, h0, h1, h2, h3⟩ := h; ⟨cell_at h0 h1, cell_at h0 h2, cell_at h0 h3⟩
set_option maxHeartbeats 1600000 in
theorem okey_any {w : World} {X n c : Nat} (hn : n < 65536) (h : ValsAt w X n) : Calls Tryz.prog 192 #[.slice (some ⟨X, 0, none⟩) 1 c] w fun e w' => ∃ A c, e = .returned (.slice A 9 c) ∧ Row w' w.heap.size A c (2 :: numBytes (9223372036854775808 + n) 8) ∧ Below w.heap.size w w' := by
  obtain ⟨c0, c1, c2⟩ := h.get
  have HH := hid h
  clear h
  go_enter Tryz.func192, Tryz.ntmps192
  go_wp2
  refine wp_loop_rounds 2 ?_
  rw [rounds_succ]
  have HO := hid (one_any (w := w.alloc (.cells #[.int .u8 1, .int .i64 (n : Int), .string ⟨#[]⟩] 32)) hn)
  unfold valV at HO
  have AL := hid (below_alloc (Below.refl _ w) (.cells #[.int .u8 1, .int .i64 (n : Int), .string ⟨#[]⟩] 32))
  go_wp2_with fail
  refine HO.out.mono ?_
  rintro e w1 ⟨A, c', rfl, r1, b1⟩
  have B1 := hid (below_then AL.out b1)
  have hl : (2 :: numBytes (9223372036854775808 + n) 8).length = 9 := by rw [List.length_cons, numBytes_length]
  have R1 := hid r1.bsa
  have SZ := hid B1.out.size
  clear HO AL c0 c1 c2 b1 r1
  obtain ⟨q, hq⟩ : ∃ q, q = 2 :: numBytes (9223372036854775808 + n) 8 := ⟨_, rfl⟩
  rw [← hq] at R1 hl
  have HL := hid hl
  have HQ := hid hq
  clear hq hl
  go_wp2_with (refine wpList_appO rfl (.tmp 12) (.tmp 14) rfl w.heap.size SZ.out none 0 [] rfl (Row.nil _ _) A c' q (by rw [HL.out]; rfl) R1.out (by rw [HL.out]; decide) 9 (by rw [HL.out]; rfl) ?_)
  intro R2 c2 w2 r2 b2
  try rw [List.nil_append] at r2
  rw [HQ.out] at r2
  have B2 := hid (B1.out.trans b2)
  have R2' := hid r2
  clear R1 B1 SZ b2 r2 HH
  go_wp2
  rw [rounds_succ]
  go_wp2
  go_ret
  exact ⟨R2, c2, rfl, R2'.out, B2.out⟩
def keyS (n : Nat) : ByteArray := strB (keyN n)
theorem keyS_list (n : Nat) : (keyS n).data.toList = keyN n := strB_list _
theorem keyN_eq (n : Nat) (h : n < 65536) : 0 :: 2 :: numBytes (9223372036854775808 + n) 8 = keyN n := by rw [eight_bytes n h]; rfl
set_option maxHeartbeats 1600000 in
theorem tkey_any {w : World} {X n c : Nat} (hn : n < 65536) (h : ValsAt w X n) : Calls Tryz.prog 149 #[.int .i64 0, .slice (some ⟨X, 0, none⟩) 1 c] w fun e w' => e = .returned (.string (keyS n)) ∧ Below w.heap.size w w' := by
  have L := hid (lit1 w 0)
  have al := below_alloc (Below.refl _ w) (.cells #[.int .u8 0] 5)
  have HO := hid (okey_any (c := c) hn (h.below al))
  have AL := hid al
  have KE := hid (keyN_eq n hn)
  clear h al
  go_enter Tryz.func149, Tryz.ntmps149
  go_wp2_with fail
  refine HO.out.mono ?_
  rintro e w1 ⟨A, c', rfl, r1, b1⟩
  have B1 := hid (below_then AL.out b1)
  have hl : (2 :: numBytes (9223372036854775808 + n) 8).length = 9 := by rw [List.length_cons, numBytes_length]
  have R1 := hid r1.bsa
  have L1 := hid (L.out.below b1)
  have SZ := hid B1.out.size
  obtain ⟨q, hq⟩ : ∃ q, q = 2 :: numBytes (9223372036854775808 + n) 8 := ⟨_, rfl⟩
  rw [← hq] at R1 KE hl
  have HL := hid hl
  clear HO AL L b1 r1 hq hl
  go_wp2_with (refine wpList_appO rfl (.tmp 7) (.tmp 9) rfl w.heap.size SZ.out (some ⟨w.heap.size, 0, none⟩) 1 [0] rfl L1.out A c' q (by rw [HL.out]; rfl) R1.out (by rw [HL.out]; decide) 10 (by rw [HL.out]; rfl) ?_)
  intro R2 c2 w2 r2 b2
  try rw [List.singleton_append] at r2
  rw [KE.out] at r2
  have B2 := hid (B1.out.trans b2)
  have cv := conv_any (n := 10) (by rfl) r2.bsa
  rw [show strB (keyN n) = keyS n from rfl] at cv
  clear R1 B1 SZ b2 r2 L1 KE
  go_wp2
  go_ret
  exact ⟨rfl, B2.out⟩
end Go.Proofs.YtnidgljkbmceaaaGreatDoor
namespace Go.Proofs.YtnidgljkbmceaaaGreatDoor
open Go.RowKit Go.Maps Go.Sort Go.Shelf
def lay_keys174_ren : Go.Shelf.Ren := ⟨fun | 7 => 174 | 10 => 212 | n => n, fun | 23 => 135 | 26 => 9 | 3 => 227 | 28 => 302 | 0 => 0 | 27 => 301 | 33 => 194 | 4 => 4 | n => n, fun | n => n⟩
theorem lay_keys174 : Go.Proofs.SlLaysZ.n7 Tryz.prog lay_keys174_ren := {
  mixed := by kernel_rfl
  f7 := ⟨Tryz.f174.name, by decide, Tryz.func174.trans (congrArg some (by kernel_rfl))⟩
  f10 := ⟨Tryz.f212.name, by decide, Tryz.func212.trans (congrArg some (by kernel_rfl))⟩
  t0 := Tryz.underlying0
  a0 := Tryz.isAgg0
  z0 := Tryz.sizeOf0
  v0 := Tryz.zeroValue0
  t4 := Tryz.underlying4
  a4 := Tryz.isAgg4
  z4 := Tryz.sizeOf4
  v4 := Tryz.zeroValue4
  t23 := Tryz.underlying135
  a23 := Tryz.isAgg135
  z23 := Tryz.sizeOf135
  v23 := Tryz.zeroValue135
  t26 := Tryz.underlying9
  a26 := Tryz.isAgg9
  z26 := Tryz.sizeOf9
  v26 := Tryz.zeroValue9
  t27 := Tryz.underlying301
  a27 := Tryz.isAgg301
  z27 := Tryz.sizeOf301
  v27 := Tryz.zeroValue301
  t28 := Tryz.underlying302
  a28 := Tryz.isAgg302
  z28 := Tryz.sizeOf302
  v28 := Tryz.zeroValue302
  t33 := Tryz.underlying194
  a33 := Tryz.isAgg194
  z33 := Tryz.sizeOf194
  v33 := Tryz.zeroValue194 }
def lay_keys189_ren : Go.Shelf.Ren := ⟨fun | 7 => 189 | 10 => 224 | n => n, fun | 23 => 304 | 26 => 9 | 3 => 209 | 28 => 302 | 0 => 0 | 27 => 301 | 33 => 194 | 4 => 4 | n => n, fun | n => n⟩
theorem lay_keys189 : Go.Proofs.SlLaysZ.n7 Tryz.prog lay_keys189_ren := {
  mixed := by kernel_rfl
  f7 := ⟨Tryz.f189.name, by decide, Tryz.func189.trans (congrArg some (by kernel_rfl))⟩
  f10 := ⟨Tryz.f224.name, by decide, Tryz.func224.trans (congrArg some (by kernel_rfl))⟩
  t0 := Tryz.underlying0
  a0 := Tryz.isAgg0
  z0 := Tryz.sizeOf0
  v0 := Tryz.zeroValue0
  t4 := Tryz.underlying4
  a4 := Tryz.isAgg4
  z4 := Tryz.sizeOf4
  v4 := Tryz.zeroValue4
  t23 := Tryz.underlying304
  a23 := Tryz.isAgg304
  z23 := Tryz.sizeOf304
  v23 := Tryz.zeroValue304
  t26 := Tryz.underlying9
  a26 := Tryz.isAgg9
  z26 := Tryz.sizeOf9
  v26 := Tryz.zeroValue9
  t27 := Tryz.underlying301
  a27 := Tryz.isAgg301
  z27 := Tryz.sizeOf301
  v27 := Tryz.zeroValue301
  t28 := Tryz.underlying302
  a28 := Tryz.isAgg302
  z28 := Tryz.sizeOf302
  v28 := Tryz.zeroValue302
  t33 := Tryz.underlying194
  a33 := Tryz.isAgg194
  z33 := Tryz.sizeOf194
  v33 := Tryz.zeroValue194 }
def lay_sorted173_ren : Go.Shelf.Ren := ⟨fun | 6 => 173 | 8 => 210 | 9 => 211 | 11 => 234 | 13 => 221 | 12 => 235 | 23 => 247 | 24 => 248 | 14 => 262 | 15 => 263 | 16 => 264 | 17 => 265 | 18 => 266 | 19 => 267 | 20 => 268 | 21 => 269 | 22 => 270 | 25 => 281 | 26 => 272 | 27 => 273 | 28 => 282 | 29 => 283 | 30 => 222 | 31 => 289 | n => n, fun | 26 => 9 | 28 => 302 | 24 => 35 | 0 => 0 | 3 => 3 | 37 => 192 | 48 => 183 | 50 => 189 | 4 => 4 | 40 => 363 | 39 => 362 | 45 => 367 | 5 => 5 | 9 => 9 | 51 => 385 | 55 => 389 | 57 => 397 | 58 => 398 | 33 => 194 | n => n, fun | n => n⟩
theorem lay_sorted173 : Go.Proofs.SlLaysZ.n6 Tryz.prog lay_sorted173_ren := {
  mixed := by kernel_rfl
  f6 := ⟨Tryz.f173.name, by decide, Tryz.func173.trans (congrArg some (by kernel_rfl))⟩
  f8 := ⟨Tryz.f210.name, by decide, Tryz.func210.trans (congrArg some (by kernel_rfl))⟩
  f11 := ⟨Tryz.f234.name, by decide, Tryz.func234.trans (congrArg some (by kernel_rfl))⟩
  t0 := Tryz.underlying0
  a0 := Tryz.isAgg0
  z0 := Tryz.sizeOf0
  v0 := Tryz.zeroValue0
  t24 := Tryz.underlying35
  a24 := Tryz.isAgg35
  z24 := Tryz.sizeOf35
  v24 := Tryz.zeroValue35
  t26 := Tryz.underlying9
  a26 := Tryz.isAgg9
  z26 := Tryz.sizeOf9
  v26 := Tryz.zeroValue9
  t28 := Tryz.underlying302
  a28 := Tryz.isAgg302
  z28 := Tryz.sizeOf302
  v28 := Tryz.zeroValue302
  i26 := by kernel_rfl }
def lay_sort211_ren : Go.Shelf.Ren := ⟨fun | 6 => 211 | 8 => 221 | 9 => 235 | 19 => 247 | 20 => 248 | 21 => 262 | 22 => 263 | 23 => 264 | 24 => 265 | 25 => 266 | 26 => 267 | 27 => 268 | 28 => 269 | 29 => 270 | 36 => 281 | 31 => 272 | 32 => 273 | 37 => 282 | 38 => 283 | 39 => 222 | 41 => 289 | n => n, fun | 27 => 35 | 29 => 9 | 3 => 3 | 32 => 192 | 26 => 35 | 0 => 0 | 44 => 183 | 46 => 189 | 4 => 4 | 36 => 363 | 35 => 362 | 41 => 367 | 5 => 5 | 9 => 9 | 53 => 385 | 57 => 389 | 63 => 397 | 64 => 398 | n => n, fun | n => n⟩
theorem lay_sort211 : Go.Proofs.SlLaysM.n6 Tryz.prog lay_sort211_ren := {
  mixed := by kernel_rfl
  f6 := ⟨Tryz.f211.name, by decide, Tryz.func211.trans (congrArg some (by kernel_rfl))⟩
  f8 := Tryz.func221.trans (congrArg some (by kernel_rfl))
  f9 := ⟨Tryz.f235.name, by decide, Tryz.func235.trans (congrArg some (by kernel_rfl))⟩
  f19 := Tryz.func247.trans (congrArg some (by kernel_rfl))
  f20 := Tryz.func248.trans (congrArg some (by kernel_rfl))
  f21 := ⟨Tryz.f262.name, by decide, Tryz.func262.trans (congrArg some (by kernel_rfl))⟩
  f22 := ⟨Tryz.f263.name, by decide, Tryz.func263.trans (congrArg some (by kernel_rfl))⟩
  f23 := ⟨Tryz.f264.name, by decide, Tryz.func264.trans (congrArg some (by kernel_rfl))⟩
  f24 := ⟨Tryz.f265.name, by decide, Tryz.func265.trans (congrArg some (by kernel_rfl))⟩
  f25 := ⟨Tryz.f266.name, by decide, Tryz.func266.trans (congrArg some (by kernel_rfl))⟩
  f26 := ⟨Tryz.f267.name, by decide, Tryz.func267.trans (congrArg some (by kernel_rfl))⟩
  f27 := ⟨Tryz.f268.name, by decide, Tryz.func268.trans (congrArg some (by kernel_rfl))⟩
  f28 := ⟨Tryz.f269.name, by decide, Tryz.func269.trans (congrArg some (by kernel_rfl))⟩
  f29 := ⟨Tryz.f270.name, by decide, Tryz.func270.trans (congrArg some (by kernel_rfl))⟩
  f31 := Tryz.func272.trans (congrArg some (by kernel_rfl))
  f32 := Tryz.func273.trans (congrArg some (by kernel_rfl))
  f36 := ⟨Tryz.f281.name, by decide, Tryz.func281.trans (congrArg some (by kernel_rfl))⟩
  f37 := ⟨Tryz.f282.name, by decide, Tryz.func282.trans (congrArg some (by kernel_rfl))⟩
  f38 := ⟨Tryz.f283.name, by decide, Tryz.func283.trans (congrArg some (by kernel_rfl))⟩
  f39 := ⟨Tryz.f222.name, by decide, Tryz.func222.trans (congrArg some (by kernel_rfl))⟩
  f41 := ⟨Tryz.f289.name, by decide, Tryz.func289.trans (congrArg some (by kernel_rfl))⟩
  t0 := Tryz.underlying0
  a0 := Tryz.isAgg0
  z0 := Tryz.sizeOf0
  v0 := Tryz.zeroValue0
  t3 := Tryz.underlying3
  a3 := Tryz.isAgg3
  z3 := Tryz.sizeOf3
  v3 := Tryz.zeroValue3
  t4 := Tryz.underlying4
  a4 := Tryz.isAgg4
  z4 := Tryz.sizeOf4
  v4 := Tryz.zeroValue4
  t5 := Tryz.underlying5
  a5 := Tryz.isAgg5
  z5 := Tryz.sizeOf5
  v5 := Tryz.zeroValue5
  t9 := Tryz.underlying9
  a9 := Tryz.isAgg9
  z9 := Tryz.sizeOf9
  v9 := Tryz.zeroValue9
  t26 := Tryz.underlying35
  a26 := Tryz.isAgg35
  z26 := Tryz.sizeOf35
  v26 := Tryz.zeroValue35
  t27 := Tryz.underlying35
  a27 := Tryz.isAgg35
  z27 := Tryz.sizeOf35
  v27 := Tryz.zeroValue35
  t29 := Tryz.underlying9
  a29 := Tryz.isAgg9
  z29 := Tryz.sizeOf9
  v29 := Tryz.zeroValue9
  t32 := Tryz.underlying192
  a32 := Tryz.isAgg192
  z32 := Tryz.sizeOf192
  v32 := Tryz.zeroValue192
  t35 := Tryz.underlying362
  a35 := Tryz.isAgg362
  z35 := Tryz.sizeOf362
  v35 := Tryz.zeroValue362
  t36 := Tryz.underlying363
  a36 := Tryz.isAgg363
  z36 := Tryz.sizeOf363
  v36 := Tryz.zeroValue363
  t41 := Tryz.underlying367
  a41 := Tryz.isAgg367
  z41 := Tryz.sizeOf367
  v41 := Tryz.zeroValue367
  t44 := Tryz.underlying183
  a44 := Tryz.isAgg183
  z44 := Tryz.sizeOf183
  v44 := Tryz.zeroValue183
  t46 := Tryz.underlying189
  a46 := Tryz.isAgg189
  z46 := Tryz.sizeOf189
  v46 := Tryz.zeroValue189
  t53 := Tryz.underlying385
  a53 := Tryz.isAgg385
  z53 := Tryz.sizeOf385
  v53 := Tryz.zeroValue385
  t57 := Tryz.underlying389
  a57 := Tryz.isAgg389
  z57 := Tryz.sizeOf389
  v57 := Tryz.zeroValue389
  t63 := Tryz.underlying397
  a63 := Tryz.isAgg397
  z63 := Tryz.sizeOf397
  v63 := Tryz.zeroValue397
  t64 := Tryz.underlying398
  a64 := Tryz.isAgg398
  z64 := Tryz.sizeOf398
  v64 := Tryz.zeroValue398 }
set_option maxHeartbeats 1000000 in
theorem lay_sorts173 (m : Nat) : AnyZ.SortsIn Tryz.prog lay_sorted173_ren Fence.wide m :=
  ⟨fun blk off cap ss W hH hblk hsz => callsIn_wide.2 (AnyM.slices_Sort_string lay_sort211 blk off cap ss W hH hblk hsz),
   fun p cap W => callsIn_wide.2 (AnyM.slices_Sort_string_none lay_sort211 p cap W)⟩
set_option maxHeartbeats 1000000 in
theorem lay_maps_Keys_174 (mb : Option Nat) (W : World) : CallsIn Fence.wide 5 Tryz.prog 174 #[.map mb] W fun e w' => e = .returned (.func (.func 212) #[] #[.pointer (some ⟨W.heap.size, 0, none⟩)]) ∧ w' = W.alloc (.cells #[.map mb] 135) :=
  AnyZ.keys_in lay_keys174 Fence.wide 5 trivial rfl mb W
set_option maxHeartbeats 1000000 in
theorem lay_slices_Sorted_keys_173_174 {H : Type} (b nn : Nat) (D0 : DataW H) (R : Value → Option (DataW H × List MemPlace)) (w : World) (hown : w.ownsMap Tryz.prog 9 R b nn D0) (hmax : Maps.size D0 ≤ maxLen) (hbytes : Maps.size D0 * 16 ≤ 140737488355328) :
    CallsIn Fence.wide 5 Tryz.prog 173 #[.func (.func 212) #[] #[.pointer (some ⟨w.heap.size, 0, none⟩)]] (w.alloc (.cells #[.map (some b)] 135)) fun e w' => ∃ (v : Value) (ss : List (List UInt8)), e = .returned v ∧ ss.Perm (strKeys D0) ∧
      w'.ownsRow (w.alloc (.cells #[.map (some b)] 135)).heap.size 9 1 v ss.length ((ss.mergeSort (fun x y => decide (x ≤ y))).map encStr) ∧ (v = .slice none 0 0 ↔ ss = []) ∧ Below (w.alloc (.cells #[.map (some b)] 135)).heap.size (w.alloc (.cells #[.map (some b)] 135)) w' := by
  have hbl := hown.lt
  have hseq : SeqGives Fence.wide 2 Tryz.prog 212 #[.pointer (some ⟨w.heap.size, 0, none⟩)] encStr (fun ss => ss.Perm (strKeys D0)) (Maps.size D0) (w.alloc (.cells #[.map (some b)] 135)) :=
    AnyZ.keys_gives (ρ := lay_keys174_ren) { lay_keys174 with } Fence.wide _ trivial rfl (by omega) w.heap.size b nn D0 _ (by simp) (by simp) (by
      obtain ⟨es, clock, hb, Ft, hs, hD⟩ := hown
      exact ⟨es, clock, (Below.heap_alloc _ _ b hbl).trans hb, Ft, hs, hD⟩)
  exact AnyZ.sorted_in lay_sorted173 Fence.wide 5 trivial trivial trivial trivial rfl (by omega) (lay_sorts173 _) (enters_of Tryz.func211 (by kernel_rfl) rfl) 212 #[.pointer (some ⟨w.heap.size, 0, none⟩)] trivial (enters_of Tryz.func212 (by kernel_rfl) rfl) _ _ hmax hbytes _ hseq
set_option maxHeartbeats 1000000 in
theorem lay_maps_Keys_189 (mb : Option Nat) (W : World) : CallsIn Fence.wide 5 Tryz.prog 189 #[.map mb] W fun e w' => e = .returned (.func (.func 224) #[] #[.pointer (some ⟨W.heap.size, 0, none⟩)]) ∧ w' = W.alloc (.cells #[.map mb] 304) :=
  AnyZ.keys_in lay_keys189 Fence.wide 5 trivial rfl mb W
set_option maxHeartbeats 1000000 in
theorem lay_slices_Sorted_keys_173_189 {H : Type} (b nn : Nat) (D0 : DataW H) (R : Value → Option (DataW H × List MemPlace)) (w : World) (hown : w.ownsMap Tryz.prog 9 R b nn D0) (hmax : Maps.size D0 ≤ maxLen) (hbytes : Maps.size D0 * 16 ≤ 140737488355328) :
    CallsIn Fence.wide 5 Tryz.prog 173 #[.func (.func 224) #[] #[.pointer (some ⟨w.heap.size, 0, none⟩)]] (w.alloc (.cells #[.map (some b)] 304)) fun e w' => ∃ (v : Value) (ss : List (List UInt8)), e = .returned v ∧ ss.Perm (strKeys D0) ∧
      w'.ownsRow (w.alloc (.cells #[.map (some b)] 304)).heap.size 9 1 v ss.length ((ss.mergeSort (fun x y => decide (x ≤ y))).map encStr) ∧ (v = .slice none 0 0 ↔ ss = []) ∧ Below (w.alloc (.cells #[.map (some b)] 304)).heap.size (w.alloc (.cells #[.map (some b)] 304)) w' := by
  have hbl := hown.lt
  have hseq : SeqGives Fence.wide 2 Tryz.prog 224 #[.pointer (some ⟨w.heap.size, 0, none⟩)] encStr (fun ss => ss.Perm (strKeys D0)) (Maps.size D0) (w.alloc (.cells #[.map (some b)] 304)) :=
    AnyZ.keys_gives (ρ := lay_keys189_ren) { lay_keys189 with } Fence.wide _ trivial rfl (by omega) w.heap.size b nn D0 _ (by simp) (by simp) (by
      obtain ⟨es, clock, hb, Ft, hs, hD⟩ := hown
      exact ⟨es, clock, (Below.heap_alloc _ _ b hbl).trans hb, Ft, hs, hD⟩)
  exact AnyZ.sorted_in lay_sorted173 Fence.wide 5 trivial trivial trivial trivial rfl (by omega) (lay_sorts173 _) (enters_of Tryz.func211 (by kernel_rfl) rfl) 224 #[.pointer (some ⟨w.heap.size, 0, none⟩)] trivial (enters_of Tryz.func224 (by kernel_rfl) rfl) _ _ hmax hbytes _ hseq
end Go.Proofs.YtnidgljkbmceaaaGreatDoor
