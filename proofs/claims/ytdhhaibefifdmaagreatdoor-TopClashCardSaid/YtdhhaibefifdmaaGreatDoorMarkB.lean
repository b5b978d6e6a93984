/- The walks of mark's digests, and of the reference's. -/
import Derived.Test.YtdhhaibefifdmaaGreatDoorMark
import Derived.Test.YtdhhaibefifdmaaGreatDoorShaI
set_option linter.unusedVariables false
set_option linter.unusedSimpArgs false
namespace Go.Proofs.YtdhhaibefifdmaaGreatDoor
open Go.RowKit PrintLast

theorem bsz (s : ByteArray) : s.data.toList.length = s.size := by simp
theorem sum256_length (p : List UInt8) : (sum256 p).length = 32 := by
  have e : sum256 p = bytesOf (run first (padded p)).1 := rfl
  rw [e, bytesOf_length, run_length rfl _]
/-- A digest, as a string. -/
def dig (p : List UInt8) : ByteArray := ⟨(sum256 p).toArray⟩
theorem sum_dig {w : World} {A : Option Addr} {c : Nat} {p : List UInt8} {n : Nat} (hn : p.length = n) (hT : Table w) (hp : BSA w A c p) (hb : p.length ≤ 1000000000000) :
    Calls Tryz.prog 18 #[.slice A n c] w fun e w' => e = .returned (.string (dig p)) ∧ Below w.heap.size w w' := by subst hn; exact sum_any hT hp hb
theorem rsum_dig {w : World} {A : Option Addr} {c : Nat} {p : List UInt8} {n : Nat} (hn : p.length = n) (hp : BSA w A c p) (hb : p.length ≤ 1000000000000) :
    Calls Tryz.prog 58 #[.slice A n c] w fun e w' => e = .returned (.string (dig p)) ∧ Below w.heap.size w w' := by subst hn; exact rsum_any hp hb
theorem dig_list (p : List UInt8) : (dig p).data.toList = sum256 p := by simp [dig]
theorem dig_size (p : List UInt8) : (dig p).size = 32 := by
  have h : (dig p).size = (sum256 p).length := by simp [dig, ByteArray.size]
  rw [h]; exact sum256_length p

set_option maxHeartbeats 1600000 in
theorem leaf_any {w : World} (hT : Table w) {a : ByteArray} {A : Option Addr} {c : Nat} {r : List UInt8} (ha : a.size ≤ 1000000) (hr : r.length ≤ 1000000) (hA : BSA w A c r) :
    Calls Tryz.prog 197 #[.string a, .slice A r.length c] w fun e w' => e = .returned (.string (dig (leafB a.data.toList r))) ∧ Below w.heap.size w w' := by
  have HL := hid (leafBytes_any ha hr hA)
  have hl : (leafB a.data.toList r).length ≤ 1000000000000 := by rw [leafB_length]; simp; omega
  obtain ⟨L, hL⟩ : ∃ L, L = leafB a.data.toList r := ⟨_, rfl⟩
  rw [← hL] at HL hl ⊢
  have hl' := hid hl
  clear hL hA hl
  go_enter Tryz.func197, Tryz.ntmps197
  go_wp2_with fail
  refine HL.out.mono ?_
  rintro e w1 ⟨A1, c1, rfl, r1, b1⟩
  have HS := hid (sum_dig rfl (hT.below b1) r1.bsa hl'.out)
  go_wp2_with fail
  refine HS.out.mono ?_
  rintro e w2 ⟨rfl, b2⟩
  go_wp2
  go_ret
  exact ⟨rfl, below_then b1 b2⟩

set_option maxHeartbeats 1600000 in
theorem node_any {w : World} (hT : Table w) {a b : ByteArray} (ha : a.size ≤ 1000000) (hb : b.size ≤ 1000000) :
    Calls Tryz.prog 233 #[.string a, .string b] w fun e w' => e = .returned (.string (dig (nodeB a.data.toList b.data.toList))) ∧ Below w.heap.size w w' := by
  have HL := hid (nodeBytes_any (w := w) ha hb)
  have hl : (nodeB a.data.toList b.data.toList).length ≤ 1000000000000 := by rw [nodeB_length]; simp; omega
  obtain ⟨L, hL⟩ : ∃ L, L = nodeB a.data.toList b.data.toList := ⟨_, rfl⟩
  rw [← hL] at HL hl ⊢
  have hl' := hid hl
  clear hL hl
  go_enter Tryz.func233, Tryz.ntmps233
  go_wp2_with fail
  refine HL.out.mono ?_
  rintro e w1 ⟨A1, c1, rfl, r1, b1⟩
  have HS := hid (sum_dig rfl (hT.below b1) r1.bsa hl'.out)
  go_wp2_with fail
  refine HS.out.mono ?_
  rintro e w2 ⟨rfl, b2⟩
  go_wp2
  go_ret
  exact ⟨rfl, below_then b1 b2⟩

set_option maxHeartbeats 1600000 in
theorem link_any {w : World} (hT : Table w) {a b : ByteArray} {A : Option Addr} {c : Nat} {r : List UInt8} (ha : a.size ≤ 1000000) (hb : b.size ≤ 1000000) (hr : r.length ≤ 1000000) (hA : BSA w A c r) :
    Calls Tryz.prog 74 #[.string a, .string b, .slice A r.length c] w fun e w' => e = .returned (.string (dig (linkB a.data.toList b.data.toList (sum256 r)))) ∧ Below w.heap.size w w' := by
  have HS := hid (sum_dig rfl hT hA (by omega))
  have HL := hid (fun w : World => linkBytes_any (w := w) ha hb (c := dig r) (by rw [dig_size]; omega))
  rw [dig_list] at HL
  have hl : (linkB a.data.toList b.data.toList (sum256 r)).length ≤ 1000000000000 := by rw [linkB_length, sum256_length]; simp; omega
  obtain ⟨L, hL⟩ : ∃ L, L = linkB a.data.toList b.data.toList (sum256 r) := ⟨_, rfl⟩
  rw [← hL] at HL hl ⊢
  have hl' := hid hl
  clear hL hl hA
  go_enter Tryz.func74, Tryz.ntmps74
  go_wp2_with fail
  refine HS.out.mono ?_
  rintro e w0 ⟨rfl, b0⟩
  go_wp2_with fail
  refine (HL.out _).mono ?_
  rintro e w1 ⟨A1, c1, rfl, r1, b1⟩
  have HS' := hid (sum_dig rfl (hT.below (below_then b0 b1)) r1.bsa hl'.out)
  go_wp2_with fail
  refine HS'.out.mono ?_
  rintro e w2 ⟨rfl, b2⟩
  go_wp2
  go_ret
  exact ⟨rfl, below_then (below_then b0 b1) b2⟩

set_option maxHeartbeats 1600000 in
theorem empty_any {w : World} (hT : Table w) : Calls Tryz.prog 45 #[] w fun e w' => e = .returned (.string (dig [0])) ∧ Below w.heap.size w w' := by
  have q0 := lits_bsa w [0] (by simp)
  have al1 := below_alloc (Below.refl _ w) (.cells (bytesV [0]).toArray 5)
  have HS := hid (sum_dig (n := 1) rfl (hT.below al1) q0 (by simp))
  clear q0
  go_enter Tryz.func45, Tryz.ntmps45
  go_wp2_with fail
  refine HS.out.mono ?_
  rintro e w2 ⟨rfl, b2⟩
  go_wp2
  go_ret
  exact ⟨rfl, below_then al1 b2⟩

/-! ### the reference -/
set_option maxHeartbeats 1600000 in
theorem rempty_any {w : World} : Calls Tryz.prog 29 #[] w fun e w' => e = .returned (.string (dig [0])) ∧ Below w.heap.size w w' := by
  have q0 := lits_bsa w [0] (by simp)
  have al1 := below_alloc (Below.refl _ w) (.cells (bytesV [0]).toArray 5)
  have HS := hid (rsum_dig (n := 1) rfl q0 (by simp))
  clear q0
  go_enter Tryz.func29, Tryz.ntmps29
  go_wp2_with fail
  refine HS.out.mono ?_
  rintro e w2 ⟨rfl, b2⟩
  go_wp2
  go_ret
  exact ⟨rfl, below_then al1 b2⟩

theorem join_gave {w : World} {A B : Option Addr} {c d n1 n2 : Nat} {x y L : List UInt8} (h1 : x.length = n1) (h2 : y.length = n2) (hL : x ++ y = L) (hx : BSA w A c x) (hy : BSA w B d y) (hbig : L.length ≤ 1000000000000) :
    Calls Tryz.prog 99 #[.slice A n1 c, .slice B n2 d] w (Gave w L) := by
  subst h1 h2 hL
  rw [List.length_append] at hbig
  refine (join_any hx hy (by omega)).mono ?_
  rintro e w' ⟨A', c', rfl, m⟩
  exact ⟨A', c', by rw [List.length_append], m.row (by simp), m.2.2⟩

/-- What a call leaves that makes bytes. -/
def GaveB (w : World) (L : List UInt8) (e : Ending) (w' : World) : Prop := ∃ A' c', e = .returned (.slice A' L.length c') ∧ BSA w' A' c' L ∧ Below w.heap.size w w'

set_option maxHeartbeats 1600000 in
theorem rlinkBytes_any {w : World} {a b d : ByteArray} (ha : a.size ≤ 1000000) (hb : b.size ≤ 1000000) (hd : d.size ≤ 1000000) :
    Calls Tryz.prog 59 #[.string a, .string b, .string d] w (GaveB w (linkB a.data.toList b.data.toList d.data.toList)) := by
  have la : a.data.toList.length = a.size := by simp
  have lb : b.data.toList.length = b.size := by simp
  have ld : d.data.toList.length = d.size := by simp
  have hE : ((⟨#[3]⟩ : ByteArray) ++ a ++ b ++ d).data.toList = linkB a.data.toList b.data.toList d.data.toList := by simp [linkB]
  have hl := linkB_length a.data.toList b.data.toList d.data.toList
  rw [la, lb, ld] at hl
  have hm : ((⟨#[3]⟩ : ByteArray) ++ a ++ b ++ d).size ≤ maxLen := by
    rw [← bsz, hE, hl]; unfold maxLen; omega
  have HL := hid hl
  have HE := hid hE
  clear la lb ld hl hE
  go_enter Tryz.func59, Tryz.ntmps59
  go_wp2_with (refine wpList_conv rfl (.tmp 12) rfl ((⟨#[3]⟩ : ByteArray) ++ a ++ b ++ d) rfl hm ?_)
  intro g c w1 _ q b1
  go_wp2
  go_ret
  exact ⟨some ⟨g, 0, none⟩, c, by rw [HL.out]; rfl, by first | (rw [← HE.out]; exact q) | (simpa [linkB] using q), b1⟩

set_option maxHeartbeats 1600000 in
theorem rlink_any {w : World} {a b : ByteArray} {A : Option Addr} {c : Nat} {r : List UInt8} (ha : a.size ≤ 1000000) (hb : b.size ≤ 1000000) (hr : r.length ≤ 1000000) (hA : BSA w A c r) :
    Calls Tryz.prog 28 #[.string a, .string b, .slice A r.length c] w fun e w' => e = .returned (.string (dig (linkB a.data.toList b.data.toList (sum256 r)))) ∧ Below w.heap.size w w' := by
  have HS := hid (rsum_dig rfl hA (by omega))
  have HL := hid (fun w : World => rlinkBytes_any (w := w) ha hb (d := dig r) (by rw [dig_size]; omega))
  rw [dig_list] at HL
  have hl : (linkB a.data.toList b.data.toList (sum256 r)).length ≤ 1000000000000 := by rw [linkB_length, sum256_length]; simp; omega
  obtain ⟨L, hL⟩ : ∃ L, L = linkB a.data.toList b.data.toList (sum256 r) := ⟨_, rfl⟩
  rw [← hL] at HL hl ⊢
  have hl' := hid hl
  clear hL hl hA
  go_enter Tryz.func28, Tryz.ntmps28
  go_wp2_with fail
  refine HS.out.mono ?_
  rintro e w0 ⟨rfl, b0⟩
  go_wp2_with fail
  refine (HL.out _).mono ?_
  rintro e w1 ⟨A1, c1, rfl, r1, b1⟩
  have HS' := hid (rsum_dig rfl r1 hl'.out)
  go_wp2_with fail
  refine HS'.out.mono ?_
  rintro e w2 ⟨rfl, b2⟩
  go_wp2
  go_ret
  exact ⟨rfl, below_then (below_then b0 b1) b2⟩
end Go.Proofs.YtdhhaibefifdmaaGreatDoor
