/- The walks of mark's digests, and of the reference's. -/
import Derived.Test.YtcfjciencggflaaDoorMark
import Derived.Test.YtcfjciencggflaaDoorShaI
set_option linter.unusedVariables false
set_option linter.unusedSimpArgs false
namespace Go.Proofs.YtcfjciencggflaaDoor
open Go.RowKit PrintLast

theorem bsz (s : ByteArray) : s.data.toList.length = s.size := by simp
theorem sum256_length (p : List UInt8) : (sum256 p).length = 32 := by
  have e : sum256 p = bytesOf (run first (padded p)).1 := rfl
  rw [e, bytesOf_length, run_length rfl _]
/-- A digest, as a string. -/
def dig (p : List UInt8) : ByteArray := ⟨(sum256 p).toArray⟩
theorem sum_dig {w : World} {A : Option Addr} {c : Nat} {p : List UInt8} {n : Nat} (hn : p.length = n) (hT : Table w) (hp : BSA w A c p) (hb : p.length ≤ 1000000000000) :
    Calls Tryd.prog 34 #[.slice A n c] w fun e w' => e = .returned (.string (dig p)) ∧ Below w.heap.size w w' := by subst hn; exact sum_any hT hp hb
theorem rsum_dig {w : World} {A : Option Addr} {c : Nat} {p : List UInt8} {n : Nat} (hn : p.length = n) (hp : BSA w A c p) (hb : p.length ≤ 1000000000000) :
    Calls Tryd.prog 11 #[.slice A n c] w fun e w' => e = .returned (.string (dig p)) ∧ Below w.heap.size w w' := by subst hn; exact rsum_any hp hb
theorem dig_list (p : List UInt8) : (dig p).data.toList = sum256 p := by simp [dig]
theorem dig_size (p : List UInt8) : (dig p).size = 32 := by
  have h : (dig p).size = (sum256 p).length := by simp [dig, ByteArray.size]
  rw [h]; exact sum256_length p

set_option maxHeartbeats 1600000 in
theorem leaf_any {w : World} (hT : Table w) {a : ByteArray} {A : Option Addr} {c : Nat} {r : List UInt8} (ha : a.size ≤ 1000000) (hr : r.length ≤ 1000000) (hA : BSA w A c r) :
    Calls Tryd.prog 87 #[.string a, .slice A r.length c] w fun e w' => e = .returned (.string (dig (leafB a.data.toList r))) ∧ Below w.heap.size w w' := by
  have HL := hid (leafBytes_any ha hr hA)
  have hl : (leafB a.data.toList r).length ≤ 1000000000000 := by rw [leafB_length]; simp; omega
  obtain ⟨L, hL⟩ : ∃ L, L = leafB a.data.toList r := ⟨_, rfl⟩
  rw [← hL] at HL hl ⊢
  have hl' := hid hl
  clear hL hA hl
  go_enter Tryd.func87, Tryd.ntmps87
  go_wp2_with fail
  refine HL.out.mono ?_
  rintro e w1 ⟨A1, c1, rfl, r1, b1⟩
  have HS := hid (sum_dig rfl (hT.below b1) r1.bsa hl'.out)
  go_wp2_with fail
  refine HS.out.mono ?_
  rintro e w2 ⟨rfl, b2⟩
  go_wp2
  go_ret
  exact ⟨rfl, below_then b1 b2⟩

set_option maxHeartbeats 1600000 in
theorem node_any {w : World} (hT : Table w) {a b : ByteArray} (ha : a.size ≤ 1000000) (hb : b.size ≤ 1000000) :
    Calls Tryd.prog 91 #[.string a, .string b] w fun e w' => e = .returned (.string (dig (nodeB a.data.toList b.data.toList))) ∧ Below w.heap.size w w' := by
  have HL := hid (nodeBytes_any (w := w) ha hb)
  have hl : (nodeB a.data.toList b.data.toList).length ≤ 1000000000000 := by rw [nodeB_length]; simp; omega
  obtain ⟨L, hL⟩ : ∃ L, L = nodeB a.data.toList b.data.toList := ⟨_, rfl⟩
  rw [← hL] at HL hl ⊢
  have hl' := hid hl
  clear hL hl
  go_enter Tryd.func91, Tryd.ntmps91
  go_wp2_with fail
  refine HL.out.mono ?_
  rintro e w1 ⟨A1, c1, rfl, r1, b1⟩
  have HS := hid (sum_dig rfl (hT.below b1) r1.bsa hl'.out)
  go_wp2_with fail
  refine HS.out.mono ?_
  rintro e w2 ⟨rfl, b2⟩
  go_wp2
  go_ret
  exact ⟨rfl, below_then b1 b2⟩

set_option maxHeartbeats 1600000 in
theorem empty_any {w : World} (hT : Table w) : Calls Tryd.prog 78 #[] w fun e w' => e = .returned (.string (dig [0])) ∧ Below w.heap.size w w' := by
  have q0 := lits_bsa w [0] (by simp)
  have al1 := below_alloc (Below.refl _ w) (.cells (bytesV [0]).toArray 5)
  have HS := hid (sum_dig (n := 1) rfl (hT.below al1) q0 (by simp))
  clear q0
  go_enter Tryd.func78, Tryd.ntmps78
  go_wp2_with fail
  refine HS.out.mono ?_
  rintro e w2 ⟨rfl, b2⟩
  go_wp2
  go_ret
  exact ⟨rfl, below_then al1 b2⟩

/-! ### the reference -/
set_option maxHeartbeats 1600000 in
theorem rempty_any {w : World} : Calls Tryd.prog 59 #[] w fun e w' => e = .returned (.string (dig [0])) ∧ Below w.heap.size w w' := by
  have q0 := lits_bsa w [0] (by simp)
  have al1 := below_alloc (Below.refl _ w) (.cells (bytesV [0]).toArray 5)
  have HS := hid (rsum_dig (n := 1) rfl q0 (by simp))
  clear q0
  go_enter Tryd.func59, Tryd.ntmps59
  go_wp2_with fail
  refine HS.out.mono ?_
  rintro e w2 ⟨rfl, b2⟩
  go_wp2
  go_ret
  exact ⟨rfl, below_then al1 b2⟩

theorem join_gave {w : World} {A B : Option Addr} {c d n1 n2 : Nat} {x y L : List UInt8} (h1 : x.length = n1) (h2 : y.length = n2) (hL : x ++ y = L) (hx : BSA w A c x) (hy : BSA w B d y) (hbig : L.length ≤ 1000000000000) :
    Calls Tryd.prog 23 #[.slice A n1 c, .slice B n2 d] w (Gave w L) := by
  subst h1 h2 hL
  rw [List.length_append] at hbig
  refine (join_any hx hy (by omega)).mono ?_
  rintro e w' ⟨A', c', rfl, m⟩
  exact ⟨A', c', by rw [List.length_append], m.row (by simp), m.2.2⟩

set_option maxHeartbeats 1600000 in
theorem rleafBytes_any {w : World} {a : ByteArray} {A : Option Addr} {c : Nat} {r : List UInt8} (ha : a.size ≤ 1000000) (hr : r.length ≤ 1000000) (hA : BSA w A c r) :
    Calls Tryd.prog 25 #[.string a, .slice A r.length c] w (Gave w (leafB a.data.toList r)) := by
  have la : a.data.toList.length = a.size := by simp
  obtain ⟨N, hN⟩ : ∃ N, N = a.size := ⟨_, rfl⟩
  have hz : (a.size : Int) = (N : Int) := by omega
  have aN : (N : Int) % 18446744073709551616 = (N : Int) := by omega
  have q0 := lits_bsa w [1] (by simp)
  have al1 := below_alloc (Below.refl _ w) (.cells (bytesV [1]).toArray 5)
  obtain ⟨L1, hL1⟩ : ∃ L, L = [1] ++ numBytes N 4 := ⟨_, rfl⟩
  obtain ⟨L2, hL2⟩ : ∃ L, L = L1 ++ a.data.toList := ⟨_, rfl⟩
  have hL3 : L2 ++ r = leafB a.data.toList r := by rw [hL2, hL1, leafB, la, ← hN]; simp
  have l1 : L1.length = 5 := by rw [hL1]; simp [numBytes_length]
  have l2 : L2.length = 5 + N := by rw [hL2, List.length_append, l1, la, hN]
  obtain ⟨L, hL⟩ : ∃ L, L = leafB a.data.toList r := ⟨_, rfl⟩
  have l3 : L.length = 5 + N + r.length := by rw [hL, ← hL3, List.length_append, l2]
  rw [← hL] at hL3 ⊢
  have X := hid (And.intro hL1 (And.intro hL2 hL3))
  have Y := hid (And.intro l1 (And.intro l2 l3))
  have LA := hid la
  have ha' : a.size ≤ maxLen := by unfold maxLen; omega
  have hNb : N ≤ 1000000 := by omega
  clear hL1 hL2 hL3 l1 l2 l3 hL la hN
  have HN := hid (num_any (w := w.alloc (.cells (bytesV [1]).toArray 5)) (n := N) (m := 4) (by omega))
  go_enter Tryd.func25, Tryd.ntmps25
  go_wp2_with fail
  refine HN.out.mono ?_
  rintro e w1 ⟨A1, c1, rfl, r1, _, b1⟩
  have q1 := q0.below b1
  have bb1 := below_then al1 b1
  have p1 := r1.bsa
  have HJ := hid (join_gave (n1 := 1) (n2 := 4) rfl (numBytes_length N 4) X.out.1.symm q1 p1 (by have := Y.out; omega))
  clear HN q0 al1 b1 r1 q1 p1
  go_wp2_with fail
  refine HJ.out.mono ?_
  rintro e w2 ⟨A2, c2, rfl, r2, b2⟩
  have bb2 := below_then bb1 b2
  clear HJ bb1 b2
  go_wp2_with (refine wpList_conv rfl (.tmp 11) rfl a rfl ha' ?_)
  intro g3 c3 w3 _ q3 b3
  have bb3 := below_then bb2 b3
  have HJ := hid (join_gave rfl LA.out X.out.2.1.symm (r2.bsa.below b3) q3 (by have := Y.out; omega))
  clear r2 b3 q3 bb2
  go_wp2_with fail
  refine HJ.out.mono ?_
  rintro e w4 ⟨A4, c4, rfl, r4, b4⟩
  have bb4 := below_then bb3 b4
  have HJ := hid (join_gave rfl rfl X.out.2.2 r4.bsa (hA.below bb4) (by have := Y.out; omega))
  clear r4 b4 bb3
  go_wp2_with fail
  refine HJ.out.mono ?_
  rintro e w5 ⟨A5, c5, rfl, r5, b5⟩
  go_wp2
  go_ret
  exact ⟨A5, c5, rfl, r5.lower bb4.size, below_then bb4 b5⟩

/-- What a call leaves that makes bytes. -/
def GaveB (w : World) (L : List UInt8) (e : Ending) (w' : World) : Prop := ∃ A' c', e = .returned (.slice A' L.length c') ∧ BSA w' A' c' L ∧ Below w.heap.size w w'

set_option maxHeartbeats 1600000 in
theorem rnodeBytes_any {w : World} {a b : ByteArray} (ha : a.size ≤ 1000000) (hb : b.size ≤ 1000000) :
    Calls Tryd.prog 26 #[.string a, .string b] w (GaveB w (nodeB a.data.toList b.data.toList)) := by
  have la : a.data.toList.length = a.size := by simp
  have lb : b.data.toList.length = b.size := by simp
  have hE : ((⟨#[2]⟩ : ByteArray) ++ a ++ b).data.toList = nodeB a.data.toList b.data.toList := by simp [nodeB]
  have hl := nodeB_length a.data.toList b.data.toList
  rw [la, lb] at hl
  have hm : ((⟨#[2]⟩ : ByteArray) ++ a ++ b).size ≤ maxLen := by
    rw [← bsz, hE, hl]; unfold maxLen; omega
  have HL := hid hl
  have HE := hid hE
  clear la lb hl hE
  go_enter Tryd.func26, Tryd.ntmps26
  go_wp2_with (refine wpList_conv rfl (.tmp 8) rfl ((⟨#[2]⟩ : ByteArray) ++ a ++ b) rfl hm ?_)
  intro g c w1 _ q b1
  try simp only [List.append_eq] at q
  go_wp2
  go_ret
  exact ⟨some ⟨g, 0, none⟩, c, by rw [HL.out]; rfl, by first | (rw [← HE.out]; exact q) | exact q, b1⟩

set_option maxHeartbeats 1600000 in
theorem rlinkBytes_any {w : World} {a b d : ByteArray} (ha : a.size ≤ 1000000) (hb : b.size ≤ 1000000) (hd : d.size ≤ 1000000) :
    Calls Tryd.prog 27 #[.string a, .string b, .string d] w (GaveB w (linkB a.data.toList b.data.toList d.data.toList)) := by
  have la : a.data.toList.length = a.size := by simp
  have lb : b.data.toList.length = b.size := by simp
  have ld : d.data.toList.length = d.size := by simp
  have hE : ((⟨#[3]⟩ : ByteArray) ++ a ++ b ++ d).data.toList = linkB a.data.toList b.data.toList d.data.toList := by simp [linkB]
  have hl := linkB_length a.data.toList b.data.toList d.data.toList
  rw [la, lb, ld] at hl
  have hm : ((⟨#[3]⟩ : ByteArray) ++ a ++ b ++ d).size ≤ maxLen := by
    rw [← bsz, hE, hl]; unfold maxLen; omega
  have HL := hid hl
  have HE := hid hE
  clear la lb ld hl hE
  go_enter Tryd.func27, Tryd.ntmps27
  go_wp2_with (refine wpList_conv rfl (.tmp 12) rfl ((⟨#[3]⟩ : ByteArray) ++ a ++ b ++ d) rfl hm ?_)
  intro g c w1 _ q b1
  go_wp2
  go_ret
  exact ⟨some ⟨g, 0, none⟩, c, by rw [HL.out]; rfl, by first | (rw [← HE.out]; exact q) | (simpa [linkB] using q), b1⟩

end Go.Proofs.YtcfjciencggflaaDoor
