/- The walks of a proof's reader: take, count, kind. -/
import Derived.Test.YtdhhaibefifdmaaGreatDoorPrfS
import Derived.Test.YtdhhaibefifdmaaGreatDoorDiskA
import Derived.Test.YtdhhaibefifdmaaGreatDoorMark
set_option linter.unusedVariables false
set_option linter.unusedSimpArgs false
namespace Go.Proofs.YtdhhaibefifdmaaGreatDoor
open Go.RowKit PrintLast

/-! ### bytes, cut -/
theorem add_at (g o i : Nat) : (⟨g, o, none⟩ : Addr).add i = ⟨g, o + i, none⟩ := by unfold Addr.add; split <;> simp_all
theorem BSA.place {w : World} {A : Option Addr} {c : Nat} {l : List UInt8} (h : BSA w A c l) (h0 : 0 < l.length) : ∃ g o, A = some ⟨g, o, none⟩ := by
  obtain ⟨ad, rfl, c0⟩ := h.cell 0 h0
  obtain ⟨g, o, sp⟩ := ad
  have hs : sp = none := by simpa [Addr.add] using World.cell?_spot c0
  subst hs
  exact ⟨g, o, rfl⟩
theorem BSA.at_ {w : World} {g o c : Nat} {l : List UInt8} (h : BSA w (some ⟨g, o, none⟩) c l) (k : Nat) (hk : k < l.length) : w.cell? ⟨g, o + k, none⟩ = some (.int .u8 (l[k].toNat : Int)) := by
  have := h.2.2.2 _ rfl k hk
  rwa [add_at] at this
theorem BSA.cut {w : World} {g o c : Nat} {l : List UInt8} (h : BSA w (some ⟨g, o, none⟩) c l) (k : Nat) (hk : k ≤ l.length) : BSA w (some ⟨g, o + k, none⟩) (c - k) (l.drop k) := by
  obtain ⟨h1, h2, h3, h4⟩ := h
  refine ⟨by rw [List.length_drop]; omega, by omega, (fun e => by cases e), fun ad e j hj => ?_⟩
  cases e
  rw [add_at, List.getElem_drop, Nat.add_assoc]
  have := h4 _ rfl (k + j) (by rw [List.length_drop] at hj; omega)
  rwa [add_at] at this
theorem BSA.head {w : World} {A : Option Addr} {c : Nat} {l : List UInt8} (h : BSA w A c l) (k : Nat) : BSA w A c (l.take k) := by
  obtain ⟨h1, h2, h3, h4⟩ := h
  refine ⟨by rw [List.length_take]; omega, h2, h3, fun ad e j hj => ?_⟩
  rw [List.getElem_take]
  exact h4 ad e j (by rw [List.length_take] at hj; omega)
theorem BSA.none_ {w : World} (g o : Nat) : BSA w (some ⟨g, o, none⟩) 0 [] := ⟨by simp, by unfold maxLen; omega, (fun e => by cases e), fun ad e j hj => by simp at hj⟩
theorem clone_gave {w : World} {A : Option Addr} {c n : Nat} {x : List UInt8} (h1 : x.length = n) (hx : BSA w A c x) (hbig : x.length ≤ 1000000000000) :
    Calls Tryz.prog 24 #[.slice A n c] w (Gave w x) := by
  subst h1
  refine (clone_any hx (by omega)).mono ?_
  rintro e w' ⟨A', c', rfl, m1, m2, m3⟩
  exact ⟨A', c', rfl, Made.row ⟨m1, m2, m3⟩ rfl, m3⟩

theorem keeps_one (w : World) (b i : Nat) (v : Value) : Keeps (fun k => k = b) w (w.setCell ⟨b, i, none⟩ v) := (Keeps.refl (fun k => k = b) w).setCell (p := ⟨b, i, none⟩) (fun _ => rfl) v

/-! ### a reader -/
def rcells (v : Value) (e : Nat) : Array Value := #[v, .int .i64 (e : Int)]
/-- A reader that has failed. -/
def ES (w : World) (b e : Nat) : Prop := ∃ v, w.heap[b]? = some (.cells (rcells v e) 147 (0, 0))
/-- A reader in front of the bytes l. -/
def RS (w : World) (b N : Nat) (l : List UInt8) : Prop :=
  ∃ A c, w.heap[b]? = some (.cells (rcells (.slice A l.length c) 0) 147 (0, 0)) ∧ BSA w A c l ∧ (0 < l.length → ∃ g o, A = some ⟨g, o, none⟩ ∧ g < N) ∧ N ≤ b
/-- A reader that has so many bytes ahead of it. -/
def WS (w : World) (b n : Nat) : Prop := ∃ A c, w.heap[b]? = some (.cells (rcells (.slice A n c) 0) 147 (0, 0)) ∧ n ≤ 9223372036854775807
theorem RS.ws {w : World} {b N : Nat} {l : List UInt8} (h : RS w b N l) : WS w b l.length := by
  obtain ⟨A, c, h1, h2, _⟩ := h
  exact ⟨A, c, h1, h2.le⟩
theorem ES.keeps {S : Nat → Prop} {w w' : World} {b e : Nat} (h : ES w b e) (hk : Keeps S w w') (hn : ¬ S b) : ES w' b e := by
  obtain ⟨v, h1⟩ := h
  exact ⟨v, hk.heap h1 hn⟩
theorem ES.below {w w' : World} {b e : Nat} (h : ES w b e) (hb : Below w.heap.size w w') : ES w' b e := by
  obtain ⟨v, h1⟩ := h
  exact ⟨v, below_heap hb h1⟩
theorem RS.move {w w' : World} {b N : Nat} {l : List UInt8} (h : RS w b N l) (hb : Below N w w') (hh : w'.heap[b]? = w.heap[b]?) : RS w' b N l := by
  obtain ⟨A, c, h1, h2, h3, h4⟩ := h
  refine ⟨A, c, hh.trans h1, ⟨h2.1, h2.2.1, h2.2.2.1, fun ad e j hj => ?_⟩, h3, h4⟩
  obtain ⟨g, o, e3, hg⟩ := h3 (by omega)
  have hc := h2.2.2.2 ad e j hj
  rw [e3] at e
  cases e
  exact (hb.cell (by rw [addr_add_block]; exact hg)).trans hc
theorem RS.below {w w' : World} {b N : Nat} {l : List UInt8} (h : RS w b N l) (hb : Below w.heap.size w w') : RS w' b N l := by
  have hlt : b < w.heap.size := by obtain ⟨A, c, h1, _⟩ := h; exact lt_of_block h1
  have hN : N ≤ b := by obtain ⟨A, c, _, _, _, h4⟩ := h; exact h4
  refine h.move ⟨hb.os, hb.tape, hb.output, hb.size, fun k hk => hb.block k (by omega)⟩ (hb.block b hlt)

set_option maxHeartbeats 800000 in
theorem take_err {w : World} {b e : Nat} {n : Int} (h : ES w b e) (he : 0 < e) (he2 : e ≤ 3) :
    Calls Tryz.prog 63 #[.pointer (some ⟨b, 0, none⟩), .int .i64 n] w fun x w' => x = .returned (.slice none 0 0) ∧ w = w' := by
  obtain ⟨v, h1⟩ := h
  have c1 := cell_at h1 (i := 1) (v := .int .i64 (e : Int)) rfl
  have t1 : ((e : Int) == 0) = false := by rw [beq_eq_false_iff_ne]; omega
  have t2 : ((e : Int) != 0) = true := by rw [bne_iff_ne]; omega
  clear h1
  go_enter Tryz.func63, Tryz.ntmps63
  go_wp2
  go_ret
  exact ⟨rfl, rfl⟩

set_option maxHeartbeats 800000 in
theorem take_short {w : World} {b m n : Nat} (h : WS w b m) (hn : m < n) (hn2 : n ≤ 1000000) :
    Calls Tryz.prog 63 #[.pointer (some ⟨b, 0, none⟩), .int .i64 (n : Int)] w fun x w' => x = .returned (.slice none 0 0) ∧ ES w' b 3 ∧ Keeps (fun k => k = b) w w' := by
  obtain ⟨A, c, h1, h2⟩ := h
  have c0 := cell_at h1 (i := 0) (v := .slice A m c) rfl
  have c1 := cell_at h1 (i := 1) (v := .int .i64 0) rfl
  have f1 := free_at h1 1
  have t1 : decide ((m : Int) < (n : Int)) = true := by simp; omega
  have hs := hid (heap_set (i := 1) (v := .int .i64 3) h1)
  clear h1
  go_enter Tryz.func63, Tryz.ntmps63
  go_wp2
  go_ret
  exact ⟨rfl, ⟨_, hs.out⟩, keeps_one w b 1 _⟩

/-- What a reader leaves that has taken so many bytes. -/
def Took (w : World) (b N : Nat) (l : List UInt8) (n : Nat) (x : Ending) (w' : World) : Prop :=
  ∃ A' c', x = .returned (.slice A' n c') ∧ Row w' w.heap.size A' c' (l.take n) ∧ RS w' b N (l.drop n) ∧ Keeps (fun k => k = b) w w'

set_option maxHeartbeats 1600000 in
theorem take_ok {w : World} {b n N : Nat} {l : List UInt8} (h : RS w b N l) (hn : n ≤ l.length) (hn2 : n ≤ 1000000) :
    Calls Tryz.prog 63 #[.pointer (some ⟨b, 0, none⟩), .int .i64 (n : Int)] w (Took w b N l n) := by
  obtain ⟨A, c, h1, h2, h3, hNb⟩ := h
  have hbw := lt_of_block h1
  have hc1 := h2.1
  have hc2 := h2.2.1
  unfold maxLen at hc2
  have lt : (l.take n).length = n := by rw [List.length_take]; omega
  have ld : (l.drop n).length = l.length - n := by rw [List.length_drop]
  have c1 := cell_at h1 (i := 1) (v := .int .i64 0) rfl
  have f0 := free_at h1 0
  obtain ⟨L, hL⟩ : ∃ L, L = l.length := ⟨_, rfl⟩
  have c0 := cell_at h1 (i := 0) (v := .slice A l.length c) rfl
  rw [← hL] at hn hc1 ld c0
  have t1 : decide ((L : Int) < (n : Int)) = false := by simp; omega
  have HL := hid hL
  have LT := hid lt
  have LD := hid ld
  have HD := hid h2
  clear hL lt ld h2
  rcases Nat.eq_zero_or_pos l.length with hl0 | hl0
  · have hL0 : L = 0 := by rw [HL.out]; exact hl0
    have hn0 : n = 0 := by omega
    subst hL0 hn0
    obtain rfl : l = [] := List.eq_nil_of_length_eq_zero hl0
    have hsz : ∀ w' : World, (sizeOf (Tryz.prog.elem 22)).run Tryz.prog w' = .ok 1 w' := fun _ => by kernel_rfl
    have ha0 : Option.map (fun x : Addr => x.add 0) A = A := by cases A <;> simp [Addr.add]
    have S1 : ∀ w' : World, (Instr.slice 22 (.slice A 0 c) none (some (.int .i64 0)) none).run Tryz.prog w' = .ok (.slice A 0 c) w' := fun w' => by
      rw [run_slice_h w' 22 A 0 c (by kernel_rfl) .i64 0 (by omega) (by omega), hsz w']
      simp only [Result.andThen, sliced, Nat.zero_mul, ha0]
      simp
    have S2 : ∀ w' : World, (Instr.slice 22 (.slice A 0 c) (some (.int .i64 0)) none none).run Tryz.prog w' = .ok (.slice A 0 c) w' := fun w' => by
      rw [run_slice_l w' 22 A 0 c (by kernel_rfl) .i64 0 (by omega) (by omega), hsz w']
      simp only [Result.andThen, sliced, Nat.zero_mul, ha0, Int.toNat_zero]
      simp
    have hs := hid (heap_set (i := 0) (v := .slice A 0 c) h1)
    have B0 : ∀ w' : World, BSA w' A c [] := fun w' => ⟨HD.out.1, HD.out.2.1, HD.out.2.2.1, fun ad e j hj => by simp at hj⟩
    have HB0 := hid B0
    have H := hid (clone_gave (n := 0) (x := []) rfl (B0 (w.setCell ⟨b, 0, none⟩ (.slice A 0 c))) (by simp))
    have HC := hid hc1
    clear h1 B0 ha0 hsz hc1 hc2 hl0 h3
    go_enter Tryz.func63, Tryz.ntmps63
    go_wp2_with fail
    refine H.out.mono ?_
    rintro e w1 ⟨A1, c1, rfl, r1, b1⟩
    have ss : (w.setCell ⟨b, 0, none⟩ (.slice A 0 c)).heap.size = w.heap.size := by simp [World.setCell]
    rw [ss] at r1
    have K1 : Keeps (fun k => k = b) w w1 := (keeps_one w b 0 _).below b1
    have R1 : RS w1 b N [] := ⟨A, c, below_heap b1 hs.out, HB0.out w1, fun e => by simp at e, hNb⟩
    clear S1 S2
    go_wp2
    go_ret
    exact ⟨A1, c1, rfl, r1, R1, K1⟩
  · obtain ⟨g, o, rfl, hgN⟩ := h3 hl0
    have hg : g ≠ b := by omega
    clear h3 hl0
    by_cases hcn : c = n
    · have hLn : c = L := by omega
      subst hcn
      subst hLn
      have hs := hid (heap_set (i := 0) (v := .slice (some ⟨g, o, none⟩) 0 0) h1)
      have kp := keeps_one w b 0 (.slice (some ⟨g, o, none⟩) 0 0)
      have q1 := ((HD.out.head c).keeps kp (fun ad e => by cases e; exact hg))
      have H := hid (clone_gave LT.out q1 (by rw [LT.out]; omega))
      have e0 : l.drop c = [] := List.eq_nil_of_length_eq_zero (by rw [LD.out]; omega)
      have E0 := hid e0
      have KP := hid kp
      clear h1 q1 e0 kp
      go_enter Tryz.func63, Tryz.ntmps63
      go_wp2_with fail
      refine H.out.mono ?_
      rintro e w1 ⟨A1, c1, rfl, r1, b1⟩
      have ss : (w.setCell ⟨b, 0, none⟩ (.slice (some ⟨g, o, none⟩) 0 0)).heap.size = w.heap.size := by simp [World.setCell]
      rw [ss] at r1
      have K1 : Keeps (fun k => k = b) w w1 := KP.out.below b1
      have R1 : RS w1 b N (l.drop c) := ⟨some ⟨g, o, none⟩, 0, by rw [E0.out]; exact below_heap b1 hs.out, by rw [E0.out]; exact BSA.none_ g o, fun _ => ⟨g, o, rfl, hgN⟩, hNb⟩
      rw [LT.out]
      go_wp2
      go_ret
      exact ⟨A1, c1, rfl, r1, R1, K1⟩
    · have hs := hid (heap_set (i := 0) (v := .slice (some ⟨g, o + n, none⟩) (L - n) (c - n)) h1)
      have kp := keeps_one w b 0 (.slice (some ⟨g, o + n, none⟩) (L - n) (c - n))
      have q1 := ((HD.out.head n).keeps kp (fun ad e => by cases e; exact hg))
      have q2 := ((HD.out.cut n (by rw [← HL.out]; exact hn)).keeps kp (fun ad e => by cases e; exact hg))
      have Q2 := hid q2
      have H := hid (clone_gave LT.out q1 (by rw [LT.out]; omega))
      have KP := hid kp
      clear h1 q1 q2 kp
      go_enter Tryz.func63, Tryz.ntmps63
      go_wp2_with fail
      refine H.out.mono ?_
      rintro e w1 ⟨A1, c1, rfl, r1, b1⟩
      have ss : (w.setCell ⟨b, 0, none⟩ (.slice (some ⟨g, o + n, none⟩) (L - n) (c - n))).heap.size = w.heap.size := by simp [World.setCell]
      rw [ss] at r1
      have K1 : Keeps (fun k => k = b) w w1 := KP.out.below b1
      have R1 : RS w1 b N (l.drop n) := ⟨some ⟨g, o + n, none⟩, c - n, by rw [LD.out]; exact below_heap b1 hs.out, Q2.out.below b1, fun _ => ⟨g, o + n, rfl, hgN⟩, hNb⟩
      rw [LT.out]
      go_wp2
      go_ret
      exact ⟨A1, c1, rfl, r1, R1, K1⟩
end Go.Proofs.YtdhhaibefifdmaaGreatDoor
