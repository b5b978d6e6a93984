import Derived.Test.YtdhhaibefifdmaaGreatDoorVrfS
import Derived.Test.YtdhhaibefifdmaaGreatDoorT4
import Derived.Test.YtdhhaibefifdmaaGreatDoorMarkB
import Derived.RangeFuncNested
import Derived.RangeFuncBound
import Derived.RangeFuncCalls
import Derived.RangeFuncLeaves
import Derived.Shelf.Abstract
import Derived.Shelf.RegionOpen
import Derived.OwnWalkIn
import Derived.TacticsInMore
import Derived.LoopNIn
import Derived.LoopIn
import Derived.Test.YtdhhaibefifdmaaGreatDoorBit
set_option linter.unusedVariables false
set_option linter.unusedSimpArgs false
/- The walks of Lay and read. -/
namespace Go.Proofs.YtdhhaibefifdmaaGreatDoor
open Go.RowKit PrintLast

set_option maxRecDepth 100000 in
set_option maxHeartbeats 3200000 in
theorem lay_any {w : World} {A B : Option Addr} {c d k m : Nat} {p : Prf} {last sum : ByteArray} (hl : last.size ≤ 1000000) (hs : sum.size ≤ 1000000) (hp : PrfAt w A k c B m d p) (hh : Holds p) (hb : (layB last sum p).length ≤ 1000000000) :
    Calls Tryz.prog 156 #[.string last, .string sum, .agg #[.slice A k c, .int .u8 (p.kind.toNat : Int), .string p.key, .slice B m d]] w (Gave w (layB last sum p)) := by
  have al := below_alloc (Below.refl _ w) (.cells #[.slice A k c, .int .u8 (p.kind.toNat : Int), .string p.key, .slice B m d] 52)
  have gb := heap_alloc_new w (.cells #[.slice A k c, .int .u8 (p.kind.toNat : Int), .string p.key, .slice B m d] 52)
  have PP := hid (hp.below al)
  have BB := hid al
  have HH := hid hh
  have HB := hid hb
  have ls : last.size ≤ maxLen := by unfold maxLen; omega
  have ss : sum.size ≤ maxLen := by unfold maxLen; omega
  clear hp al hh hb
  go_enter Tryz.func156, Tryz.ntmps156
  go_upto_region 1 with fail
  obtain ⟨S, hS⟩ : ∃ S, S = w.heap.size := ⟨_, rfl⟩
  have HS := hid hS
  rw [← hS] at gb ⊢
  clear hS
  generalize w.alloc (.cells #[.slice A k c, .int .u8 (p.kind.toNat : Int), .string p.key, .slice B m d] 52) = w0 at *
  go_wp2_with (refine wpList_conv rfl (.tmp 7) rfl last rfl ls ?_)
  intro g1 c1 w1 _ q1 b1
  replace PP := hid (PP.out.below b1)
  have gb1 := below_heap b1 gb
  replace BB := hid (below_then BB.out b1)
  have Q1 := hid q1
  clear gb b1 q1
  go_wp2_with (refine wpList_conv rfl (.tmp 9) rfl sum rfl ss ?_)
  intro g2 c2 w2 _ q2 b2
  replace PP := hid (PP.out.below b2)
  have gb2 := below_heap b2 gb1
  replace BB := hid (below_then BB.out b2)
  replace Q1 := hid (Q1.out.below b2)
  have Q2 := hid q2
  obtain ⟨v0, v1, v2, v3, -, -, -, -⟩ := four gb2
  have HC := hid (enc_any (c := c) PP.out.1 PP.out.2.1 PP.out.2.2.2.1 PP.out.2.2.2.2 HH.out)
  clear gb1 b2 q2
  go_wp2_with fail
  refine HC.out.mono ?_
  rintro e w3 ⟨A3, c3, rfl, r3, b3⟩
  replace BB := hid (below_then BB.out b3)
  replace Q1 := hid (Q1.out.below b3)
  replace Q2 := hid (Q2.out.below b3)
  obtain ⟨N, hN⟩ : ∃ N, N = (encB p).length := ⟨_, rfl⟩
  have E1 : partV (some ⟨g1, 0, none⟩, c1, last.data.toList) = .slice (some ⟨g1, 0, none⟩) last.size c1 := by unfold partV; simp
  have E2 : partV (some ⟨g2, 0, none⟩, c2, sum.data.toList) = .slice (some ⟨g2, 0, none⟩) sum.size c2 := by unfold partV; simp
  have E3 : partV (A3, c3, encB p) = .slice A3 N c3 := by rw [hN]; rfl
  have H3 := concat3 (w := w3) (p1 := (some ⟨g1, 0, none⟩, c1, last.data.toList)) (p2 := (some ⟨g2, 0, none⟩, c2, sum.data.toList)) (p3 := (A3, c3, encB p)) (L := layB last sum p) rfl Q1.out Q2.out r3.bsa (by have := HB.out; omega)
  rw [E1, E2, E3] at H3
  have HC3 := hid H3
  rw [← hN]
  clear HC PP gb2 v0 v1 v2 v3 hN E1 E2 E3 H3 r3 b3 Q1 Q2
  go_wp2_with fail
  refine HC3.out.mono ?_
  rintro e w4 ⟨A4, c4, rfl, r4, b4⟩
  have BF := below_then BB.out b4
  go_wp2
  go_ret
  exact ⟨A4, c4, rfl, r4.lower BB.out.size, BF⟩

theorem infLaid : (Tryz.prog.info? 54).map (·.size) = some 6 := by kernel_rfl
/-- A value that was read. -/
def laidV (A : Option Addr) (n c : Nat) (kd : Int) (ky : ByteArray) (B : Option Addr) (m d : Nat) (s1 s2 : ByteArray) : Array Value := #[.slice A n c, .int .u8 kd, .string ky, .slice B m d, .string s1, .string s2]
def LaidAt (w : World) (A : Option Addr) (n c : Nat) (kd : Int) (ky : ByteArray) (B : Option Addr) (m d : Nat) (x : Prf) : Prop := PrfAt w A n c B m d x ∧ (x.kind.toNat : Int) = kd ∧ x.key = ky
theorem LaidAt.below {w w' : World} {A B : Option Addr} {n c m d : Nat} {kd : Int} {ky : ByteArray} {x : Prf} (h : LaidAt w A n c kd ky B m d x) (hb : Below w.heap.size w w') : LaidAt w' A n c kd ky B m d x := ⟨h.1.below hb, h.2⟩
theorem textB_two {l : List UInt8} {e : Nat} (h : textB l = .error e) : e = 2 ∨ e = 3 := by
  unfold textB at h
  split at h
  · exact .inr (Except.error.inj h).symm
  · split at h
    · exact .inl (Except.error.inj h).symm
    · split at h
      · exact .inr (Except.error.inj h).symm
      · cases h
theorem lastB_two {p : Prf} {l : List UInt8} {e : Nat} (h : lastB p l = .error e) : e = 2 ∨ e = 3 := by
  unfold lastB at h
  split at h
  · cases h
  · exact .inl (Except.error.inj h).symm
theorem rowB_two {s : List ByteArray} {k : UInt8} {key : ByteArray} {l : List UInt8} {e : Nat} (h : rowB s k key l = .error e) : e = 2 ∨ e = 3 := by
  unfold rowB at h
  split at h
  · rename_i ht; rw [Except.error.inj h] at ht; exact textB_two ht
  · exact lastB_two h
theorem endB_two {s : List ByteArray} {l : List UInt8} {e : Nat} (h : endB s l = .error e) : e = 2 ∨ e = 3 := by
  unfold endB at h
  split at h
  · exact .inr (Except.error.inj h).symm
  · split at h
    · exact .inl (Except.error.inj h).symm
    · split at h
      · unfold otherB at h
        split at h
        · rename_i ht; rw [Except.error.inj h] at ht; exact textB_two ht
        · exact rowB_two h
      · split at h
        · exact rowB_two h
        · exact lastB_two h
theorem decB_two {q : List UInt8} {e : Nat} (h : decB q = .error e) : e = 2 ∨ e = 3 := by
  unfold decB at h
  split at h
  · exact .inr (Except.error.inj h).symm
  · split at h
    · exact .inl (Except.error.inj h).symm
    · split at h
      · exact .inr (Except.error.inj h).symm
      · exact endB_two h
/-- What read answers. -/
def ReadV (w : World) (p : List UInt8) (e : Ending) (w' : World) : Prop :=
  ∃ A n c kd ky B m d s1 s2 ok, e = .returned (.tuple #[.agg (laidV A n c kd ky B m d s1 s2), .bool ok]) ∧ Hid (ok = (readV p).isSome ∧ ∀ x, readV p = some x → LaidAt w' A n c kd ky B m d x.1 ∧ x.2.1 = s1 ∧ x.2.2 = s2) ∧ Below w.heap.size w w'
theorem readV_short {p : List UInt8} (h : p.length < 64) : readV p = none := by unfold readV; rw [if_pos h]
theorem readV_res {p : List UInt8} (h : ¬ p.length < 64) : (readV p).isSome = decide ((resB (p.drop 64)).1 = 0) ∧ ∀ x, readV p = some x → x = ((resB (p.drop 64)).2, strB (p.take 32), strB ((p.drop 32).take 32)) := by
  unfold readV
  rw [if_neg h]
  cases hd : decB (p.drop 64) with
  | error e =>
    have : resB (p.drop 64) = (e, ⟨[], 0, ⟨#[]⟩, []⟩) := by unfold resB; rw [hd]
    have he := decB_two hd
    rw [this]
    simp
    omega
  | ok y =>
    have : resB (p.drop 64) = (0, y) := by unfold resB; rw [hd]
    rw [this]
    simp
theorem set6_heap {w : World} {g : Nat} {x y z u p q a b c d e f : Value} {t : TypeId} (h : w.heap[g]? = some (.cells #[x, y, z, u, p, q] t (0, 0))) : ((((((w.setCell ⟨g, 0, none⟩ a).setCell ⟨g, 1, none⟩ b).setCell ⟨g, 2, none⟩ c).setCell ⟨g, 3, none⟩ d).setCell ⟨g, 4, none⟩ e).setCell ⟨g, 5, none⟩ f).heap[g]? = some (.cells #[a, b, c, d, e, f] t (0, 0)) := by
  rw [heap_set (heap_set (heap_set (heap_set (heap_set (heap_set h)))))]
  rfl
theorem set6_below {w w0 : World} {B g : Nat} (h : Below B w0 w) (hg : B ≤ g) (a b c d e f : Value) : Below B w0 ((((((w.setCell ⟨g, 0, none⟩ a).setCell ⟨g, 1, none⟩ b).setCell ⟨g, 2, none⟩ c).setCell ⟨g, 3, none⟩ d).setCell ⟨g, 4, none⟩ e).setCell ⟨g, 5, none⟩ f) :=
  (((((h.setCell (p := ⟨g, 0, none⟩) hg a).setCell (p := ⟨g, 1, none⟩) hg b).setCell (p := ⟨g, 2, none⟩) hg c).setCell (p := ⟨g, 3, none⟩) hg d).setCell (p := ⟨g, 4, none⟩) hg e).setCell (p := ⟨g, 5, none⟩) hg f
theorem set6_keeps (w : World) (g : Nat) (a b c d e f : Value) : Keeps (fun k => k = g) w ((((((w.setCell ⟨g, 0, none⟩ a).setCell ⟨g, 1, none⟩ b).setCell ⟨g, 2, none⟩ c).setCell ⟨g, 3, none⟩ d).setCell ⟨g, 4, none⟩ e).setCell ⟨g, 5, none⟩ f) :=
  ((((((Keeps.refl (fun k => k = g) w).setCell (p := ⟨g, 0, none⟩) (fun _ => rfl) a).setCell (p := ⟨g, 1, none⟩) (fun _ => rfl) b).setCell (p := ⟨g, 2, none⟩) (fun _ => rfl) c).setCell (p := ⟨g, 3, none⟩) (fun _ => rfl) d).setCell (p := ⟨g, 4, none⟩) (fun _ => rfl) e).setCell (p := ⟨g, 5, none⟩) (fun _ => rfl) f
theorem six {w : World} {g : Nat} {x y z u p q : Value} {t : TypeId} (h : w.heap[g]? = some (.cells #[x, y, z, u, p, q] t (0, 0))) :
    w.cell? ⟨g, 0, none⟩ = some x ∧ w.cell? ⟨g, 1, none⟩ = some y ∧ w.cell? ⟨g, 2, none⟩ = some z ∧ w.cell? ⟨g, 3, none⟩ = some u ∧ w.cell? ⟨g, 4, none⟩ = some p ∧ w.cell? ⟨g, 5, none⟩ = some q ∧
    w.frozen? ⟨g, 0, none⟩ = false ∧ w.frozen? ⟨g, 1, none⟩ = false ∧ w.frozen? ⟨g, 2, none⟩ = false ∧ w.frozen? ⟨g, 3, none⟩ = false ∧ w.frozen? ⟨g, 4, none⟩ = false ∧ w.frozen? ⟨g, 5, none⟩ = false :=
  ⟨cell_at h rfl, cell_at h rfl, cell_at h rfl, cell_at h rfl, cell_at h rfl, cell_at h rfl, free_at h 0, free_at h 1, free_at h 2, free_at h 3, free_at h 4, free_at h 5⟩

/-- Bytes from a place on: the run of the operation, and what it reads as. -/
theorem cut_from {w : World} {A : Option Addr} {c n k : Nat} {kk : Int} {l : List UInt8} (hk : kk = (k : Int)) (hl : l.length = n) (hb : BSA w A c l) (h1 : k ≤ n) (h0 : 0 < n) :
    ∃ A' c', (∀ w' : World, (Instr.slice 22 (.slice A n c) (some (.int .i64 kk)) none none).run Tryz.prog w' = .ok (.slice A' (n - k) c') w') ∧ (∀ w' : World, BSA w' A c l → BSA w' A' c' (l.drop k)) ∧ (l.drop k).length = n - k := by
  subst hl hk
  obtain ⟨g, o, rfl⟩ := hb.place h0
  have hc := hb.1
  have hsz : ∀ w' : World, (sizeOf (Tryz.prog.elem 22)).run Tryz.prog w' = .ok 1 w' := fun _ => by kernel_rfl
  have hrun : ∀ w' : World, (Instr.slice 22 (.slice (some ⟨g, o, none⟩) l.length c) (some (.int .i64 (k : Int))) none none).run Tryz.prog w' = .ok (sliced (some ⟨g, o, none⟩) k l.length c 1) w' := fun w' => by
    rw [run_slice_l w' 22 (some ⟨g, o, none⟩) l.length c (by kernel_rfl) .i64 (k : Int) (by omega) (by omega), hsz w']
    simp [Result.andThen]
  have hlen : (l.drop k).length = l.length - k := List.length_drop
  by_cases hck : c = k
  · have hh : l.length - k = 0 := by omega
    refine ⟨some ⟨g, o, none⟩, c - k, fun w' => by rw [hrun w']; simp [sliced, hck], fun w' _ => ?_, hlen⟩
    rw [List.eq_nil_of_length_eq_zero (hlen.trans hh), hck, Nat.sub_self]
    exact BSA.none_ g o
  · refine ⟨some ⟨g, o + k, none⟩, c - k, fun w' => by rw [hrun w']; simp [sliced, hck, add_at], fun w' hb' => ?_, hlen⟩
    exact hb'.cut k (by omega)
theorem cut_head {w : World} {A : Option Addr} {c n k : Nat} {kk : Int} {l : List UInt8} (hk : kk = (k : Int)) (hl : l.length = n) (hb : BSA w A c l) (h1 : k ≤ n) :
    (∀ w' : World, (Instr.slice 22 (.slice A n c) none (some (.int .i64 kk)) none).run Tryz.prog w' = .ok (.slice A k c) w') ∧ (l.take k).length = k := by
  subst hl hk
  have hc := hb.1
  have hsz : ∀ w' : World, (sizeOf (Tryz.prog.elem 22)).run Tryz.prog w' = .ok 1 w' := fun _ => by kernel_rfl
  refine ⟨fun w' => ?_, by rw [List.length_take]; omega⟩
  rw [run_slice_h w' 22 A l.length c (by kernel_rfl) .i64 (k : Int) (by omega) (by omega), hsz w']
  cases A <;> simp [Result.andThen, sliced, Addr.add]
theorem cut_mid {w : World} {A : Option Addr} {c n k h : Nat} {kk hh : Int} {l : List UInt8} (ek : kk = (k : Int)) (eh : hh = (h : Int)) (hl : l.length = n) (hb : BSA w A c l) (h1 : k ≤ h) (h2 : h ≤ n) (h0 : 0 < n) :
    ∃ A' c', (∀ w' : World, (Instr.slice 22 (.slice A n c) (some (.int .i64 kk)) (some (.int .i64 hh)) none).run Tryz.prog w' = .ok (.slice A' (h - k) c') w') ∧ (∀ w' : World, BSA w' A c l → BSA w' A' c' ((l.drop k).take (h - k))) ∧ ((l.drop k).take (h - k)).length = h - k := by
  subst ek eh
  exact cut_run hl hb h1 h2 h0

theorem resB_sides (q : List UInt8) : (resB q).2.side.length ≤ 1000 := by
  unfold resB
  cases h : decB q with
  | error e => simp
  | ok p => have := (decB_fits h).2.1; simp only; omega

set_option maxRecDepth 100000 in
set_option maxHeartbeats 3200000 in
theorem read_any {w : World} {A : Option Addr} {c n : Nat} {p : List UInt8} (hn : p.length = n) (hp : BSA w A c p) (hb : n ≤ 1000000) :
    Calls Tryz.prog 15 #[.slice A n c] w (ReadV w p) := by
  have al := below_alloc (Below.refl _ w) (.cells #[.slice none 0 0, .int .u8 0, .string ⟨#[]⟩, .slice none 0 0, .string ⟨#[]⟩, .string ⟨#[]⟩] 54)
  have g0 := heap_alloc_new w (.cells #[.slice none 0 0, .int .u8 0, .string ⟨#[]⟩, .slice none 0 0, .string ⟨#[]⟩, .string ⟨#[]⟩] 54)
  obtain ⟨S, hS⟩ : ∃ S, S = w.heap.size := ⟨_, rfl⟩
  have HS := hid hS
  by_cases h64 : n < 64
  · have t1 : decide ((n : Int) < 64) = true := by simp; omega
    have HR := hid (readV_short (p := p) (by omega))
    have BF := hid (set6_below al (Nat.le_refl w.heap.size) (.slice none 0 0) (.int .u8 0) (.string ⟨#[]⟩) (.slice none 0 0) (.string ⟨#[]⟩) (.string ⟨#[]⟩))
    rw [← hS] at g0 BF
    have G := hid (set6_heap (a := .slice none 0 0) (b := .int .u8 0) (c := .string ⟨#[]⟩) (d := .slice none 0 0) (e := .string ⟨#[]⟩) (f := .string ⟨#[]⟩) g0)
    obtain ⟨v0, v1, v2, v3, v4, v5, z0, z1, z2, z3, z4, z5⟩ := six g0
    clear hn hp hS al g0
    go_enter Tryz.func15, Tryz.ntmps15
    go_upto_region 1 with fail
    rw [← HS.out]
    generalize w.alloc (.cells #[.slice none 0 0, .int .u8 0, .string ⟨#[]⟩, .slice none 0 0, .string ⟨#[]⟩, .string ⟨#[]⟩] 54) = W at *
    go_wp2
    refine bodyPost_ret (ret_cell_tmp rfl rfl G.out Tryz.underlying54 rfl infLaid) rfl ?_
    exact ⟨none, 0, 0, 0, _, none, 0, 0, _, _, false, rfl, hid ⟨by rw [HR.out]; rfl, fun x hx => by rw [HR.out] at hx; cases hx⟩, by rw [← HS.out]; exact BF.out⟩
  · have t1 : decide ((n : Int) < 64) = false := by simp; omega
    obtain ⟨A1, c1, cr1, cb1, cl1⟩ := cut_from (kk := 64) (k := 64) rfl hn hp (by omega) (by omega)
    obtain ⟨cr2, cl2⟩ := cut_head (kk := 32) (k := 32) rfl hn hp (by omega)
    obtain ⟨A3, c3, cr3, cb3, cl3⟩ := cut_mid (kk := 32) (hh := 64) (k := 32) (h := 64) rfl rfl hn hp (by omega) (by omega) (by omega)
    obtain ⟨M, hM⟩ : ∃ M, M = n - 64 := ⟨_, rfl⟩
    have hMb : M ≤ 1000000 := by omega
    rw [← hM] at cr1 cl1
    have HR := hid (readV_res (p := p) (by omega))
    have PP := hid (hp.below al)
    have BB := hid al
    rw [← hS] at g0
    have C1 := hid cb1
    have C3 := hid cb3
    have HM := hid hMb
    have CL := hid (And.intro cl1 (And.intro cl2 cl3))
    clear hn hp hS al hM hMb h64 cb1 cb3 cl1 cl2 cl3
    go_enter Tryz.func15, Tryz.ntmps15
    go_upto_region 1 with fail
    rw [← HS.out]
    generalize w.alloc (.cells #[.slice none 0 0, .int .u8 0, .string ⟨#[]⟩, .slice none 0 0, .string ⟨#[]⟩, .string ⟨#[]⟩] 54) = W at *
    have HD := hid (dec_any CL.out.1 (C1.out _ PP.out) HM.out)
    go_wp2_with fail
    refine HD.out.mono ?_
    rintro e w1 ⟨A4, c4, B4, d4, rfl, x4, r4, b4⟩
    obtain ⟨Y, hY⟩ : ∃ Y, Y = (resB (p.drop 64)).2 := ⟨_, rfl⟩
    obtain ⟨E, hE⟩ : ∃ E, E = (resB (p.drop 64)).1 := ⟨_, rfl⟩
    have RR := HR.out
    rw [← hY, ← hE] at RR
    rw [← hY] at x4 r4
    rw [← hY, ← hE]
    obtain ⟨y1, hy1⟩ : ∃ y1, y1 = Y.side.length := ⟨_, rfl⟩
    obtain ⟨y2, hy2⟩ : ∃ y2, y2 = Y.row.length := ⟨_, rfl⟩
    have P4 : Y.side.length = y1 ∧ Y.row.length = y2 ∧ y1 ≤ 1000000000 ∧ Txt w1 W.heap.size A4 c4 Y.side ∧ Row w1 W.heap.size B4 d4 Y.row := ⟨hy1.symm, hy2.symm, by have := resB_sides (p.drop 64); rw [← hY] at this; omega, x4, r4⟩
    have HRR := hid RR
    have g1 := below_heap b4 g0
    replace PP := hid (PP.out.below b4)
    replace BB := hid (below_then BB.out b4)
    unfold prfV
    rw [← hy1, ← hy2]
    obtain ⟨k, hk⟩ : ∃ k : Int, k = (Y.kind.toNat : Int) := ⟨_, rfl⟩
    rw [← hk]
    have HK := hid hk
    obtain ⟨S4, hS4⟩ : ∃ S4, S4 = w1.heap.size := ⟨_, rfl⟩
    have s04 : S < S4 := by rw [hS4]; exact lt_of_block g1
    have H4 := heap_alloc_new w1 (.cells #[.slice A4 y1 c4, .int .u8 k, .string Y.key, .slice B4 y2 d4] 52)
    have K4 := below_alloc (Below.refl _ w1) (.cells #[.slice A4 y1 c4, .int .u8 k, .string Y.key, .slice B4 y2 d4] 52)
    rw [← hS4] at H4 K4
    have GG := hid (And.intro H4 K4)
    have HS4 := hid hS4
    have G1 := hid g1
    have P4' := hid P4
    clear g0 b4 x4 r4 hY hE RR HR HD hy1 hy2 H4 K4 hS4 g1 hk P4
    go_upto_region 4 with fail
    rw [← HS4.out]
    generalize w1.alloc (.cells #[.slice A4 y1 c4, .int .u8 k, .string Y.key, .slice B4 y2 d4] 52) = X at *
    obtain ⟨H4, K4⟩ := GG.out
    have K4' : Below w1.heap.size w1 X := by rw [← HS4.out]; exact K4
    obtain ⟨u0, u1, u2, u3, -, -, -, -⟩ := four H4
    have k1 := (K4.block S s04).trans G1.out
    obtain ⟨v0, v1, v2, v3, v4, v5, z0, z1, z2, z3, z4, z5⟩ := six k1
    have PX := PP.out.below K4'
    have P4X := And.intro (P4'.out.2.2.2.1.below K4') (P4'.out.2.2.2.2.below K4')
    have PN := hid (And.intro P4'.out.1 (And.intro P4'.out.2.1 P4'.out.2.2.1))
    have cv2 := conv_any (w := X.drew) (n := 32) CL.out.2.1 (show BSA X.drew A c (p.take 32) from PX.head 32)
    have cr3' : ∀ w' : World, (Instr.slice 22 (.slice A n c) (some (.int .i64 32)) (some (.int .i64 64)) none).run Tryz.prog w' = .ok (.slice A3 32 c3) w' := cr3
    have cv3 := conv_any (w := X.drew) (n := 32) CL.out.2.2 (show BSA X.drew A3 c3 ((p.drop 32).take 32) from C3.out X PX)
    have BX := hid (BB.out.trans (K4'.mono BB.out.size))
    have PXX := hid P4X
    have KX := hid k1
    clear H4 K4 K4' GG G1 PP P4' BB PX P4X k1 cr3
    refine start_ (n := 12) (S := fun w' => w'.cell? ⟨S4, 0, none⟩ = some (.slice A4 y1 c4) ∧ w'.cell? ⟨S4, 1, none⟩ = some (.int .u8 k) ∧ w'.cell? ⟨S4, 2, none⟩ = some (.string Y.key) ∧ w'.cell? ⟨S4, 3, none⟩ = some (.slice B4 y2 d4) ∧ (convert 22 9 (.slice A 32 c)).run Tryz.prog w' = .ok (.string (strB (p.take 32))) w' ∧ (convert 22 9 (.slice A3 32 c3)).run Tryz.prog w' = .ok (.string (strB ((p.drop 32).take 32))) w') (ds := [10]) #[false, false, false, false, false, false, false, false, false, false, false, false] (by kernel_rfl) rfl rfl ⟨u0, u1, u2, u3, cv2, cv3⟩ (fun hHeld => ?_)
    refine pure_ (i := 1) (N := some 17) (v := ?_) (a' := ?_) #[false, true, false, false, false, false, false, false, false, false, false, false] rfl rfl (by kernel_rfl) (fun _ _ _ h => h) (Or.inl ⟨by rfl, ?_⟩) ?_ ?_
    rotate_left
    · intro w'
      go_simp
      with_reducible rfl
    rotate_left
    · simp only [Act.put, List.setIfInBounds_toArray, List.set_cons_zero, List.set_cons_succ, i64_w, i32_w]
      rfl
    refine pure_ (i := 2) (N := some 18) (v := ?_) (a' := ?_) #[false, true, true, false, false, false, false, false, false, false, false, false] rfl rfl (by kernel_rfl) (fun _ _ _ h => h) (Or.inl ⟨by rfl, ?_⟩) ?_ ?_
    rotate_left
    · intro w'
      go_simp
      with_reducible rfl
    rotate_left
    · simp only [Act.put, List.setIfInBounds_toArray, List.set_cons_zero, List.set_cons_succ, i64_w, i32_w]
      rfl
    refine pure_ (i := 4) (N := some 20) (v := ?_) (a' := ?_) #[false, true, true, false, true, false, false, false, false, false, false, false] rfl rfl (by kernel_rfl) (fun _ _ _ h => h) (Or.inl ⟨by rfl, ?_⟩) ?_ ?_
    rotate_left
    · intro w'
      go_simp
      with_reducible rfl
    rotate_left
    · simp only [Act.put, List.setIfInBounds_toArray, List.set_cons_zero, List.set_cons_succ, i64_w, i32_w]
      rfl
    refine pure_ (i := 5) (N := some 21) (v := ?_) (a' := ?_) #[false, true, true, false, true, true, false, false, false, false, false, false] rfl rfl (by kernel_rfl) (fun _ _ _ h => h) (Or.inl ⟨by rfl, ?_⟩) ?_ ?_
    rotate_left
    · intro w'
      go_simp
      with_reducible rfl
    rotate_left
    · simp only [Act.put, List.setIfInBounds_toArray, List.set_cons_zero, List.set_cons_succ, i64_w, i32_w]
      rfl
    refine pure_ (i := 8) (N := some 24) (v := ?_) (a' := ?_) #[false, true, true, false, true, true, false, false, true, false, false, false] rfl rfl (by kernel_rfl) (fun _ _ _ h => h) (Or.inl ⟨by rfl, ?_⟩) ?_ ?_
    rotate_left
    · intro w'
      go_simp
      with_reducible rfl
    rotate_left
    · simp only [Act.put, List.setIfInBounds_toArray, List.set_cons_zero, List.set_cons_succ, i64_w, i32_w]
      rfl
    refine pure_ (i := 9) (N := some 25) (v := ?_) (a' := ?_) #[false, true, true, false, true, true, false, false, true, true, false, false] rfl rfl (by kernel_rfl) (fun _ _ _ h => h) (Or.inl ⟨by rfl, ?_⟩) ?_ ?_
    rotate_left
    · intro w'
      go_simp
      with_reducible rfl
    rotate_left
    · simp only [Act.put, List.setIfInBounds_toArray, List.set_cons_zero, List.set_cons_succ, i64_w, i32_w]
      rfl
    refine take_ (i := 0) (N := some 16) (v := ?_) (a' := ?_) #[true, true, true, false, true, true, false, false, true, true, false, false] rfl rfl (by kernel_rfl) (fun _ _ _ h => h) (Or.inl ⟨by rfl, ?_⟩) hHeld ?_ ?_
    rotate_left
    · rintro w' ⟨s0, s1, s2, s3, s4, s5⟩
      go_simp
      with_reducible rfl
    rotate_left
    · simp only [Act.put, List.setIfInBounds_toArray, List.set_cons_zero, List.set_cons_succ, i64_w, i32_w]
      rfl
    refine take_ (i := 3) (N := some 19) (v := ?_) (a' := ?_) #[true, true, true, true, true, true, false, false, true, true, false, false] rfl rfl (by kernel_rfl) (fun _ _ _ h => h) (Or.inl ⟨by rfl, ?_⟩) hHeld ?_ ?_
    rotate_left
    · rintro w' ⟨s0, s1, s2, s3, s4, s5⟩
      go_simp
      with_reducible rfl
    rotate_left
    · simp only [Act.put, List.setIfInBounds_toArray, List.set_cons_zero, List.set_cons_succ, i64_w, i32_w]
      rfl
    refine take_ (i := 6) (N := some 22) (v := ?_) (a' := ?_) #[true, true, true, true, true, true, true, false, true, true, false, false] rfl rfl (by kernel_rfl) (fun _ _ _ h => h) (Or.inl ⟨by rfl, ?_⟩) hHeld ?_ ?_
    rotate_left
    · rintro w' ⟨s0, s1, s2, s3, s4, s5⟩
      go_simp
      with_reducible rfl
    rotate_left
    · simp only [Act.put, List.setIfInBounds_toArray, List.set_cons_zero, List.set_cons_succ, i64_w, i32_w]
      rfl
    refine pure_ (i := 7) (N := some 23) (v := ?_) (a' := ?_) #[true, true, true, true, true, true, true, true, true, true, false, false] rfl rfl (by kernel_rfl) (fun _ _ _ h => h) (Or.inl ⟨by rfl, ?_⟩) ?_ ?_
    rotate_left
    · intro w'
      go_simp
      with_reducible rfl
    rotate_left
    · simp only [Act.put, List.setIfInBounds_toArray, List.set_cons_zero, List.set_cons_succ, i64_w, i32_w]
      rfl
    refine last_ (i := 10) (N := none) #[true, true, true, true, true, true, true, true, true, true, true, false] rfl rfl (by kernel_rfl) (by decide) (fun K hK => ?_)
    refine skip_ (w1 := ?_) (by rfl) rfl ?_ ?_
    rotate_left
    · go_simp
      rfl
    refine hK.out _ _ ?_
    clear hK K
    refine pure_ (i := 11) (N := some 3) (v := ?_) (a' := ?_) #[true, true, true, true, true, true, true, true, true, true, true, true] rfl rfl (by kernel_rfl) (fun _ _ _ h => h) (Or.inl ⟨by rfl, ?_⟩) ?_ ?_
    rotate_left
    · intro w'
      go_simp
      with_reducible rfl
    rotate_left
    · simp only [Act.put, List.setIfInBounds_toArray, List.set_cons_zero, List.set_cons_succ, i64_w, i32_w]
      rfl
    refine done_ (by kernel_rfl) ?_
    clear cv2 cv3 u0 u1 u2 u3
    generalize hs1 : strB (p.take 32) = s1 at *
    generalize hs2 : strB ((p.drop 32).take 32) = s2 at *
    have HSS := hid (And.intro hs1 hs2)
    clear hs1 hs2
    go_wp2
    have G := set6_heap (a := .slice A4 y1 c4) (b := .int .u8 k) (c := .string Y.key) (d := .slice B4 y2 d4) (e := .string s1) (f := .string s2) KX.out
    have KK := set6_keeps X S (.slice A4 y1 c4) (.int .u8 k) (.string Y.key) (.slice B4 y2 d4) (.string s1) (.string s2)
    have T1 := PXX.out.1.far KK KX.out (by decide)
    have T2 := PXX.out.2.far KK KX.out (by decide)
    have BF := set6_below BX.out (by rw [← HS.out]; exact Nat.le_refl S) (.slice A4 y1 c4) (.int .u8 k) (.string Y.key) (.slice B4 y2 d4) (.string s1) (.string s2)
    generalize (((((X.setCell ⟨S, 0, none⟩ (.slice A4 y1 c4)).setCell ⟨S, 1, none⟩ (.int .u8 k)).setCell ⟨S, 2, none⟩ (.string Y.key)).setCell ⟨S, 3, none⟩ (.slice B4 y2 d4)).setCell ⟨S, 4, none⟩ (.string s1)).setCell ⟨S, 5, none⟩ (.string s2) = Z at *
    have T3 : TxtAt Z.drew A4 Y.side := T1.at_
    have T4 : BSA Z.drew B4 d4 Y.row := T2.bsa
    refine bodyPost_ret (ret_cell_tmp rfl rfl (show Z.drew.heap[S]? = _ from G) Tryz.underlying54 rfl infLaid) rfl ?_
    refine ⟨A4, y1, c4, k, Y.key, B4, y2, d4, s1, s2, ((E : Int) == 0), rfl, hid ⟨?_, fun x hx => ?_⟩, BF.drew⟩
    · rw [HRR.out.1]
      by_cases h0 : E = 0
      · simp [h0]
      · simp [h0]
    · have hx' := HRR.out.2 x hx
      subst hx'
      exact ⟨⟨⟨PN.out.1, PN.out.2.1, PN.out.2.2, T3, T4⟩, HK.out.symm, rfl⟩, rfl, rfl⟩
end Go.Proofs.YtdhhaibefifdmaaGreatDoor

/- Lists of bytes of the call's own, whose elements are read: append, reverse. -/
namespace Go.Proofs.YtdhhaibefifdmaaGreatDoor
open Go.RowKit PrintLast

def txs (ps : List Part) : List (List UInt8) := ps.map (·.2.2)
theorem txs_length (ps : List Part) : (txs ps).length = ps.length := by simp [txs]
theorem txs_append (ps qs : List Part) : txs (ps ++ qs) = txs ps ++ txs qs := by simp [txs]
theorem infL8 : (Tryz.prog.info? 22).map (fun i => (i.zero, i.size, i.bytes)) = some (some (.slice none 0 0), 1, 24) := by kernel_rfl
/-- An element's bytes lie elsewhere than the list. -/
def FarB (A : Option Addr) (x : Part) : Prop := 0 < x.2.2.length → ∀ ad bd, A = some ad → x.1 = some bd → bd.block ≠ ad.block
def LB (w : World) (B : Nat) (A : Option Addr) (c : Nat) (ps : List Part) : Prop :=
  w.ownsRow B 22 1 (.slice A ps.length c) ps.length (ps.map partV) ∧ ∀ x ∈ ps, BSA w x.1 x.2.1 x.2.2 ∧ FarB A x
theorem LB.nil (w : World) (B : Nat) : LB w B none 0 [] := ⟨World.ownsRow_nil _ _ _ _, by simp⟩
theorem LB.below {w w' : World} {B c : Nat} {A : Option Addr} {ps : List Part} (h : LB w B A c ps) (hb : Below w.heap.size w w') : LB w' B A c ps :=
  ⟨below_own hb h.1, fun x hx => ⟨(h.2 x hx).1.below hb, (h.2 x hx).2⟩⟩
theorem own_lower {w : World} {B B' e size n : Nat} {v : Value} {xs : List Value} (h : w.ownsRow B e size v n xs) (hB : B' ≤ B) : w.ownsRow B' e size v n xs := by
  refine ⟨h.1, ?_⟩
  rcases h.2 with k | ⟨g, cap, cur, e, hb, r⟩
  · exact .inl k
  · exact .inr ⟨g, cap, cur, e, Nat.le_trans hB hb, r⟩
theorem LB.lower {w : World} {B B' c : Nat} {A : Option Addr} {ps : List Part} (h : LB w B A c ps) (hB : B' ≤ B) : LB w B' A c ps := ⟨own_lower h.1 hB, h.2⟩
theorem LB.place {w : World} {B c : Nat} {A : Option Addr} {ps : List Part} (h : LB w B A c ps) (h0 : 0 < ps.length) : ∃ g, A = some ⟨g, 0, none⟩ := by
  rcases h.1.2 with ⟨_, e0⟩ | ⟨g, cap, cur, e', _⟩
  · omega
  · exact ⟨g, (Value.slice.inj e').1⟩
theorem LB.cap {w : World} {B c : Nat} {A : Option Addr} {ps : List Part} (h : LB w B A c ps) : ps.length ≤ c ∧ c ≤ maxLen := by
  rcases h.1.2 with ⟨e', h0⟩ | ⟨g, cap, cur, e', _, _, h1, h2, _⟩
  · have hc : c = 0 := (Value.slice.inj e').2.2
    exact ⟨by omega, by unfold maxLen; omega⟩
  · have hc : c = cap := (Value.slice.inj e').2.2
    subst hc
    exact ⟨h1, h2⟩
theorem LB.none_ {w : World} {B c : Nat} {A : Option Addr} {ps : List Part} (h : LB w B A c ps) (hA : A = none) : ps = [] ∧ c = 0 := by
  rcases h.1.2 with ⟨e', h0⟩ | ⟨g, cap, cur, e', _⟩
  · exact ⟨List.eq_nil_of_length_eq_zero h0, (Value.slice.inj e').2.2⟩
  · have := (Value.slice.inj e').1
    rw [hA] at this
    cases this
theorem LB.cell {w : World} {B c g : Nat} {ps : List Part} (h : LB w B (some ⟨g, 0, none⟩) c ps) (k : Nat) (hk : k < ps.length) : w.cell? ⟨g, k, none⟩ = some (partV ps[k]) := by
  have h1 := h.1.cells (g := g) rfl k (partV ps[k]) (by simp [hk])
  rwa [add_plain] at h1
theorem LB.elem {w : World} {B c : Nat} {A : Option Addr} {ps : List Part} (h : LB w B A c ps) (k : Nat) (hk : k < ps.length) : BSA w ps[k].1 ps[k].2.1 ps[k].2.2 := (h.2 _ (List.getElem_mem hk)).1
/-- A block of another type beside the list stays. -/
theorem LB.beside {w w' : World} {B c n : Nat} {A : Option Addr} {ps : List Part} (h : LB w B A c ps) (hn : ps.length = n) (hg : w.grownBy w' (Value.slice A n c).ownBlock) {k : Nat} {cs : Array Value} {t : TypeId} {fr : Nat × Nat} (hk : w.heap[k]? = some (.cells cs t fr)) (ht : t ≠ 22) : w'.heap[k]? = some (.cells cs t fr) := by
  subst hn
  refine (hg.block k (lt_of_block hk) (fun e => ?_)).trans hk
  obtain ⟨cur, h1⟩ := own_typ h.1 e.symm
  rw [hk] at h1
  simp at h1
  exact ht h1.2.1

theorem LB.grow {w w' : World} {B c c' : Nat} {R A' : Option Addr} {ps qs : List Part} (hR : LB w B R c ps) (hB : B ≤ w.heap.size) (hq : ∀ q ∈ qs, BSA w q.1 q.2.1 q.2.2 ∧ FarB R q)
    (k1 : w'.ownsRow 0 22 1 (.slice A' (ps.length + qs.length) c') (ps.length + qs.length) (ps.map partV ++ qs.map partV)) (k2 : w.grownBy w' (Value.slice R ps.length c).ownBlock)
    (k3 : (Value.slice A' (ps.length + qs.length) c').ownBlock = (Value.slice R ps.length c).ownBlock ∨ (Value.slice A' (ps.length + qs.length) c').ownBlock = some w.heap.size) : LB w' B A' c' (ps ++ qs) ∧ Below B w w' := by
  have kk : Keeps (fun k => some k = (Value.slice R ps.length c).ownBlock) w w' := (Keeps.refl _ w).grown k2 (fun k e _ => e.symm)
  have el : ∀ x : Part, BSA w x.1 x.2.1 x.2.2 → FarB R x → BSA w' x.1 x.2.1 x.2.2 := fun x hb hf => hb.keeps' kk (fun ad e hl hk => by
    rcases hR.1.2 with ⟨e1, _⟩ | ⟨g, cap, cur, e1, _⟩
    · rw [e1] at hk; cases hk
    · rw [e1] at hk
      have e2 : ad.block = g := by simpa [Value.ownBlock] using hk
      exact hf hl ⟨g, 0, none⟩ ad (Value.slice.inj e1).1 e e2)
  have far : ∀ x : Part, BSA w x.1 x.2.1 x.2.2 → FarB R x → FarB A' x := fun x hb hf hl ad bd e1 e2 e3 => by
    have hlt : bd.block < w.heap.size := by
      have := World.block_lt_of_cell? w _ (hb.2.2.2 bd e2 0 hl)
      rwa [addr_add_block] at this
    rcases k1.2 with ⟨e4, _⟩ | ⟨g', cap', cur', e4, _⟩
    · rw [(Value.slice.inj e4).1] at e1; cases e1
    · have e5 : ad = ⟨g', 0, none⟩ := Option.some.inj (e1.symm.trans (Value.slice.inj e4).1)
      rw [e4] at k3
      rcases k3 with k3 | k3
      · rcases hR.1.2 with ⟨e6, _⟩ | ⟨g, cap, cur, e6, _⟩
        · rw [e6] at k3; cases k3
        · rw [e6] at k3
          have e7 : g' = g := by simpa [Value.ownBlock] using k3
          exact hf hl ⟨g, 0, none⟩ bd (Value.slice.inj e6).1 e2 (by rw [e3, e5]; exact e7)
      · have e7 : g' = w.heap.size := by simpa [Value.ownBlock] using k3
        rw [e5] at e3
        have : bd.block = g' := e3
        omega
  refine ⟨⟨⟨by simp, ?_⟩, fun x hx => ?_⟩, (Below.refl B w).grown k2 hB (fun k hk => (hR.1.lt k hk).1)⟩
  · rcases k1.2 with ⟨e4, e0⟩ | ⟨g', cap', cur', e', _, r⟩
    · exact .inl ⟨by simpa using e4, by simpa using e0⟩
    · refine .inr ⟨g', cap', cur', by simpa using e', ?_, by simpa using r⟩
      rw [e'] at k3
      rcases k3 with k3 | k3
      · exact (hR.1.lt g' (by rw [← k3]; rfl)).1
      · simp [Value.ownBlock] at k3
        omega
  · rcases List.mem_append.1 hx with hx | hx
    · exact ⟨el x (hR.2 x hx).1 (hR.2 x hx).2, far x (hR.2 x hx).1 (hR.2 x hx).2⟩
    · exact ⟨el x (hq x hx).1 (hq x hx).2, far x (hq x hx).1 (hq x hx).2⟩
theorem partV_one (ps : List Part) : ∀ u ∈ ps.map partV, u.oneCell' = true := by
  intro u hu
  obtain ⟨_, _, rfl⟩ := List.mem_map.1 hu
  rfl
section
variable {w : World} {ops : Array Oper} {rest : List Oper} {o : Oper} {a : Act} {K : Act → World → Prop} {Q : Exit → Act → World → Prop} {E : Prop}
/-- 'append' of a list to a list of the call's own. -/
theorem wpList_appL (hgd : o.guard = none) (s x : Operand)
    (ho : o.op = .call { callee := .builtin .append, args := #[s, x], argTypes := #[24, 24] }) (B : Nat) (hB : B ≤ w.heap.size)
    (R : Option Addr) (c N : Nat) (ps : List Part) (hs : a.eval s = .slice R N c) (hN : ps.length = N) (hR : LB w B R c ps) (A : Option Addr) (M d B2 : Nat) (qs : List Part) (hx : a.eval x = .slice A M d) (hM : qs.length = M) (hQ : LB w B2 A d qs) (hfar : ∀ q ∈ qs, FarB R q)
    (h47 : N + M ≤ 1000000000) (T : Nat) (hT : N + M = T)
    (h : ∀ R' c' w', LB w' B R' c' (ps ++ qs) → Below B w w' → w.grownBy w' (Value.slice R N c).ownBlock → wpList Tryz.prog ops Q rest (a.put o.dst (.slice R' T c')) w') : wpList Tryz.prog ops Q (o :: rest) a w := by
  subst hN hM hT
  obtain ⟨i0, hi, hz0, hz1, hz2⟩ := info_parts infL8
  refine wpList_app hgd s x 24 ho 22 i0 (.slice none 0 0) 1 24 Tryz.underlying24 hi hz0 hz1 hz2 rfl (by decide) _ ps.length (ps.map partV) hs (own_lower hR.1 (Nat.zero_le _)) A qs.length d (qs.map partV) hx (by simp) (fun e => by obtain ⟨h1, h2⟩ := hQ.none_ e; exact ⟨by rw [h1]; rfl, h2⟩) ?_ (partV_one qs) (by unfold maxLen; omega) (by omega) ?_
  · intro ad e j u hu
    have hj : j < qs.length := by have := (List.getElem?_eq_some_iff.1 hu).1; simpa using this
    obtain ⟨g, e2⟩ := hQ.place (by omega)
    subst e2
    cases e
    rw [add_plain, hQ.cell j hj, ← hu]
    simp [hj]
  · intro A' c' w' k1 k2 k3 _
    obtain ⟨h1, h2⟩ := hR.grow hB (fun q hq => ⟨(hQ.2 q hq).1, hfar q hq⟩) k1 k2 k3
    exact h A' c' w' h1 h2 k2
theorem step_appL (hgd : o.guard = none) (s x : Operand)
    (ho : o.op = .call { callee := .builtin .append, args := #[s, x], argTypes := #[24, 24] }) (B : Nat) (hB : B ≤ w.heap.size)
    (R : Option Addr) (c N : Nat) (ps : List Part) (hs : a.eval s = .slice R N c) (hN : ps.length = N) (hR : LB w B R c ps) (A : Option Addr) (M d B2 : Nat) (qs : List Part) (hx : a.eval x = .slice A M d) (hM : qs.length = M) (hQ : LB w B2 A d qs) (hfar : ∀ q ∈ qs, FarB R q)
    (h47 : N + M ≤ 1000000000) (T : Nat) (hT : N + M = T)
    (h : ∀ R' c' w', LB w' B R' c' (ps ++ qs) → Below B w w' → w.grownBy w' (Value.slice R N c).ownBlock → K (a.put o.dst (.slice R' T c')) w') :
    if Region.wanted o (yielded ops a.tmps) = true then Oper.wp Tryz.prog o a w K Q else E := by
  subst hN hM hT
  obtain ⟨i0, hi, hz0, hz1, hz2⟩ := info_parts infL8
  refine step_app hgd s x 24 ho 22 i0 (.slice none 0 0) 1 24 Tryz.underlying24 hi hz0 hz1 hz2 rfl (by decide) _ ps.length (ps.map partV) hs (own_lower hR.1 (Nat.zero_le _)) A qs.length d (qs.map partV) hx (by simp) (fun e => by obtain ⟨h1, h2⟩ := hQ.none_ e; exact ⟨by rw [h1]; rfl, h2⟩) ?_ (partV_one qs) (by unfold maxLen; omega) (by omega) ?_
  · intro ad e j u hu
    have hj : j < qs.length := by have := (List.getElem?_eq_some_iff.1 hu).1; simpa using this
    obtain ⟨g, e2⟩ := hQ.place (by omega)
    subst e2
    cases e
    rw [add_plain, hQ.cell j hj, ← hu]
    simp [hj]
  · intro A' c' w' k1 k2 k3 _
    obtain ⟨h1, h2⟩ := hR.grow hB (fun q hq => ⟨(hQ.2 q hq).1, hfar q hq⟩) k1 k2 k3
    exact h A' c' w' h1 h2 k2
end
/-- A list of one that is written out. -/
theorem LB.lit {w : World} {x : Part} (h : BSA w x.1 x.2.1 x.2.2) : LB (w.alloc (.cells #[partV x] 22)) w.heap.size (some ⟨w.heap.size, 0, none⟩) 1 [x] := by
  refine ⟨World.ownsRow_lit (e := 22) (size := 1) w #[partV x] 1 (Nat.le_refl _) (by unfold maxLen; omega) (by simp), fun y hy => ?_⟩
  obtain rfl : y = x := by simpa using hy
  refine ⟨h.below (below_alloc (Below.refl _ w) _), fun hl ad bd e1 e2 e3 => ?_⟩
  have hlt : bd.block < w.heap.size := by
    have := World.block_lt_of_cell? w _ (h.2.2.2 bd e2 0 hl)
    rwa [addr_add_block] at this
  cases e1
  have : bd.block = w.heap.size := e3
  omega
/-- Bytes that were made behind the list lie elsewhere. -/
theorem far_new {w w' : World} {B B' c c' : Nat} {A A' : Option Addr} {ps : List Part} {l : List UInt8} (h : LB w B A c ps) (hr : Row w' B' A' c' l) (hB : w.heap.size ≤ B') : FarB A (A', c', l) := fun hl ad bd e1 e2 e3 => by
  rcases hr.2 with ⟨e4, _⟩ | ⟨g, cap, cur, e4, hb, _⟩
  · rw [show A' = none from (Value.slice.inj e4).1] at e2; cases e2
  · have e5 : bd = ⟨g, 0, none⟩ := Option.some.inj (e2.symm.trans (Value.slice.inj e4).1)
    rcases h.1.2 with ⟨e6, _⟩ | ⟨g2, cap2, cur2, e6, _, hg2, _⟩
    · rw [(Value.slice.inj e6).1] at e1; cases e1
    · have e7 : ad = ⟨g2, 0, none⟩ := Option.some.inj (e1.symm.trans (Value.slice.inj e6).1)
      have := lt_of_block hg2
      rw [e5, e7] at e3
      have : g = g2 := e3
      omega
/-- Bytes that lay there ahead of the list lie elsewhere. -/
theorem far_old {w : World} {g c' : Nat} {A' : Option Addr} {l : List UInt8} (hr : BSA w A' c' l) (hg : w.heap.size ≤ g) : FarB (some ⟨g, 0, none⟩) (A', c', l) := fun hl ad bd e1 e2 e3 => by
  have hlt : bd.block < w.heap.size := by
    have := World.block_lt_of_cell? w _ (hr.2.2.2 bd e2 0 hl)
    rwa [addr_add_block] at this
  cases e1
  have : bd.block = g := e3
  omega
end Go.Proofs.YtdhhaibefifdmaaGreatDoor

/- The walks of end, of the library's Reverse and Backward. -/
namespace Go.Proofs.YtdhhaibefifdmaaGreatDoor
open Go.RowKit PrintLast

set_option maxRecDepth 100000 in
set_option maxHeartbeats 3200000 in
theorem vend_any {w : World} {A B : Option Addr} {n c m d : Nat} {kd : Int} {ky key s1 s2 : ByteArray} {x : Prf} (hx : LaidAt w A n c kd ky B m d x) (hk : key.size ≤ 1000000) (hf : Fits x) :
    Calls Tryz.prog 33 #[.agg (laidV A n c kd ky B m d s1 s2), .string key] w (Gave w (endD key x)) := by
  unfold laidV
  have al := below_alloc (Below.refl _ w) (.cells #[.slice A n c, .int .u8 kd, .string ky, .slice B m d, .string s1, .string s2] 54)
  have g0 := heap_alloc_new w (.cells #[.slice A n c, .int .u8 kd, .string ky, .slice B m d, .string s1, .string s2] 54)
  have LX := hid (hx.below al)
  obtain ⟨S, hS⟩ : ∃ S, S = w.heap.size := ⟨_, rfl⟩
  have HS := hid hS
  have BB := hid al
  rw [← hS] at g0
  have ks : ky.size ≤ 1000000 := by rw [← hx.2.2]; have := hf.2.2.2.1; omega
  have rs : m ≤ 1000000 := by rw [← hx.1.2.1]; have := hf.2.2.2.2.1; omega
  have hk2 : kd = (x.kind.toNat : Int) := hx.2.1.symm
  have hky := hid (show ky = x.key from hx.2.2.symm)
  have hm := hid (show x.row.length = m from hx.1.2.1)
  obtain ⟨v0, v1, v2, v3, v4, v5, -, -, -, -, -, -⟩ := six g0
  clear hx al hS g0
  by_cases h1 : x.kind = 1
  · have t1 : (kd == 1) = true := by rw [hk2, h1]; rfl
    have HE := hid (show endD key x = leafB key.data.toList x.row by unfold endD; rw [if_pos h1])
    have HL := hid (leafBytes_any (a := key) (r := x.row) hk (by rw [hm.out]; exact rs) LX.out.1.2.2.2.2)
    rw [hm.out] at HL
    clear h1 hk2
    go_enter Tryz.func33, Tryz.ntmps33
    go_upto_region 1 with fail
    rw [← HS.out]
    generalize w.alloc (.cells #[.slice A n c, .int .u8 kd, .string ky, .slice B m d, .string s1, .string s2] 54) = W at *
    go_wp2_with fail
    refine HL.out.mono ?_
    rintro e w1 ⟨A1, c1, rfl, r1, b1⟩
    have BF := below_then BB.out b1
    have RF := r1.lower BB.out.size
    go_wp2
    go_ret
    rw [HE.out]
    exact ⟨A1, c1, rfl, RF, BF⟩
  · have t1 : (kd == 1) = false := by rw [hk2]; exact kind_bne h1
    by_cases h2 : x.kind = 2
    · have t2 : (kd == 2) = true := by rw [hk2, h2]; rfl
      have HE := hid (show endD key x = leafB ky.data.toList x.row by unfold endD; rw [if_neg h1, if_pos h2, hky.out])
      have HL := hid (leafBytes_any (a := ky) (r := x.row) ks (by rw [hm.out]; exact rs) LX.out.1.2.2.2.2)
      rw [hm.out] at HL
      clear h1 h2 hk2
      go_enter Tryz.func33, Tryz.ntmps33
      go_upto_region 1 with fail
      rw [← HS.out]
      generalize w.alloc (.cells #[.slice A n c, .int .u8 kd, .string ky, .slice B m d, .string s1, .string s2] 54) = W at *
      go_wp2_with fail
      refine HL.out.mono ?_
      rintro e w1 ⟨A1, c1, rfl, r1, b1⟩
      have BF := below_then BB.out b1
      have RF := r1.lower BB.out.size
      go_wp2
      go_ret
      rw [HE.out]
      exact ⟨A1, c1, rfl, RF, BF⟩
    · have t2 : (kd == 2) = false := by rw [hk2]; exact kind_bne h2
      have HE := hid (show endD key x = [0] by unfold endD; rw [if_neg h1, if_neg h2])
      clear h1 h2 hk2
      go_enter Tryz.func33, Tryz.ntmps33
      go_upto_region 1 with fail
      rw [← HS.out]
      generalize w.alloc (.cells #[.slice A n c, .int .u8 kd, .string ky, .slice B m d, .string s1, .string s2] 54) = W at *
      go_wp2
      have RF := lits_row W BB.out.size [0] (by decide)
      have BF := BB.out.alloc BB.out.size (.cells (bytesV [0]).toArray 5)
      go_ret
      rw [HE.out]
      exact ⟨_, _, rfl, RF, BF⟩

theorem wrap64_is (n : Int) (h : -9223372036854775808 ≤ n ∧ n ≤ 9223372036854775807) : wrap64 n = n := by unfold wrap64; omega
theorem LB.set {w : World} {B c g : Nat} {ps : List Part} (h : LB w B (some ⟨g, 0, none⟩) c ps) (k : Nat) {q : Part} (hq : BSA w q.1 q.2.1 q.2.2) (hf : FarB (some ⟨g, 0, none⟩) q) : LB (w.setCell ⟨g, k, none⟩ (partV q)) B (some ⟨g, 0, none⟩) c (ps.set k q) := by
  have h1 := (World.ownsRow.stored h.1 k (partV q)).1
  have e : (ps.set k q).map partV = (ps.map partV).set k (partV q) := by rw [List.map_set]
  have el : ∀ x : Part, BSA w x.1 x.2.1 x.2.2 → FarB (some ⟨g, 0, none⟩) x → BSA (w.setCell ⟨g, k, none⟩ (partV q)) x.1 x.2.1 x.2.2 := fun x hb hf => hb.keeps' (keeps_one w g k (partV q)) (fun ad e hl hk => hf hl ⟨g, 0, none⟩ ad rfl e hk)
  refine ⟨by rw [e, List.length_set]; exact h1, fun x hx => ?_⟩
  rcases List.mem_or_eq_of_mem_set hx with hx | rfl
  · exact ⟨el x (h.2 x hx).1 (h.2 x hx).2, (h.2 x hx).2⟩
  · exact ⟨el x hq hf, hf⟩
/-- A list that is turned round in its place, behind so many rounds. -/
def revS (ps : List Part) : Nat → List Part
  | 0 => ps
  | k + 1 => ((revS ps k).set k (ps.getD (ps.length - 1 - k) (none, 0, []))).set (ps.length - 1 - k) (ps.getD k (none, 0, []))
theorem revS_length (ps : List Part) (k : Nat) : (revS ps k).length = ps.length := by
  induction k with
  | zero => rfl
  | succ k ih => simp [revS, ih]
theorem revS_get (ps : List Part) (k : Nat) : 2 * k ≤ ps.length → ∀ j, j < ps.length → (revS ps k)[j]? = if j < k ∨ ps.length - k ≤ j then ps[ps.length - 1 - j]? else ps[j]? := by
  induction k with
  | zero => intro _ j hj; rw [if_neg (by omega)]; rfl
  | succ k ih =>
    intro hk j hj
    have h := ih (by omega) j hj
    have e1 : ∀ i, i < ps.length → some (ps.getD i (none, 0, [])) = ps[i]? := fun i hi => by rw [List.getD_eq_getElem?_getD, List.getElem?_eq_getElem hi]; rfl
    show (((revS ps k).set k _).set (ps.length - 1 - k) _)[j]? = _
    by_cases h1 : ps.length - 1 - k = j
    · subst h1
      rw [List.getElem?_set_self (by rw [List.length_set, revS_length]; omega), if_pos (by omega), e1 k (by omega)]
      congr 1
      omega
    · rw [List.getElem?_set_ne h1]
      by_cases h2 : k = j
      · subst h2
        rw [List.getElem?_set_self (by rw [revS_length]; omega), if_pos (by omega), e1 _ (by omega)]
      · rw [List.getElem?_set_ne h2, h]
        by_cases h3 : j < k ∨ ps.length - k ≤ j
        · rw [if_pos h3, if_pos (by omega)]
        · rw [if_neg h3, if_neg (by omega)]
theorem revS_end (ps : List Part) (k : Nat) (h1 : 2 * k ≤ ps.length) (h2 : ps.length ≤ 2 * k + 1) : revS ps k = ps.reverse := by
  apply List.ext_getElem?
  intro j
  by_cases hj : j < ps.length
  · rw [revS_get ps k h1 j hj, List.getElem?_reverse hj]
    by_cases h3 : j < k ∨ ps.length - k ≤ j
    · rw [if_pos h3]
    · rw [if_neg h3]
      congr 1
      omega
  · rw [List.getElem?_eq_none (by rw [revS_length]; omega), List.getElem?_eq_none (by rw [List.length_reverse]; omega)]

set_option maxRecDepth 100000 in
set_option maxHeartbeats 3200000 in
theorem rev_any {w : World} {B c n g : Nat} {ps : List Part} (hn : ps.length = n) (hl : LB w B (some ⟨g, 0, none⟩) c ps) :
    Calls Tryz.prog 38 #[.slice (some ⟨g, 0, none⟩) n c] w fun e w' => e = .returned (.tuple #[]) ∧ LB w' B (some ⟨g, 0, none⟩) c ps.reverse ∧ Keeps (fun k => k = g) w w' := by
  have hc := hl.cap
  have hc2 : n ≤ 9223372036854775807 := by have := hc.2; unfold maxLen at this; omega
  have HN := hid hn
  have L0 : LB w B (some ⟨g, 0, none⟩) c (revS ps 0) := hl
  have K0 := Keeps.refl (fun k => k = g) w
  have hg : ∃ cur, w.heap[g]? = some (.cells cur 22 (0, 0)) := own_typ hl.1 rfl
  clear hn hl
  go_enter Tryz.func38, Tryz.ntmps38
  go_wp2
  go_loopw [2, 3] (fun i j wr => ∃ k : Nat, 2 * k ≤ n ∧ i = .int .i64 (k : Int) ∧ j = .int .i64 ((n : Int) - 1 - k) ∧ LB wr B (some ⟨g, 0, none⟩) c (revS ps k) ∧ Keeps (fun k => k = g) w wr) (fun i _ _ => n - (intOf i).toNat)
  case atStart => exact ⟨0, by omega, rfl, by simp, L0, K0⟩
  case round =>
    clear L0 K0
    obtain ⟨k, hk, rfl, rfl, hL, hK⟩ := hrel
    by_cases hlt : (k : Int) < (n : Int) - 1 - k
    · obtain ⟨j, hj⟩ : ∃ j : Nat, (n : Int) - 1 - k = (j : Int) := ⟨n - 1 - k, by omega⟩
      rw [hj] at hlt ⊢
      have hjn : j < n := by omega
      have hkn : k < n := by omega
      have hkj : k < j := by omega
      have cK := hL.cell k (by rw [revS_length, HN.out]; exact hkn)
      have cJ := hL.cell j (by rw [revS_length, HN.out]; exact hjn)
      have eK : (revS ps k)[k]'(by rw [revS_length, HN.out]; exact hkn) = ps[k]'(by rw [HN.out]; exact hkn) := by
        have := revS_get ps k (by rw [HN.out]; exact hk) k (by rw [HN.out]; exact hkn)
        rw [if_neg (by rw [HN.out]; omega), List.getElem?_eq_getElem (by rw [revS_length, HN.out]; exact hkn), List.getElem?_eq_getElem (by rw [HN.out]; exact hkn)] at this
        exact Option.some.inj this
      have eJ : (revS ps k)[j]'(by rw [revS_length, HN.out]; exact hjn) = ps[j]'(by rw [HN.out]; exact hjn) := by
        have := revS_get ps k (by rw [HN.out]; exact hk) j (by rw [HN.out]; exact hjn)
        rw [if_neg (by rw [HN.out]; omega), List.getElem?_eq_getElem (by rw [revS_length, HN.out]; exact hjn), List.getElem?_eq_getElem (by rw [HN.out]; exact hjn)] at this
        exact Option.some.inj this
      have mK := hL.2 _ (List.getElem_mem (by rw [revS_length, HN.out]; exact hkn : k < (revS ps k).length))
      have mJ := hL.2 _ (List.getElem_mem (by rw [revS_length, HN.out]; exact hjn : j < (revS ps k).length))
      rw [eK] at cK mK
      rw [eJ] at cJ mJ
      have dK : ps[k]'(by rw [HN.out]; exact hkn) = ps.getD k (none, 0, []) := by rw [List.getD_eq_getElem?_getD, List.getElem?_eq_getElem (by rw [HN.out]; exact hkn)]; rfl
      have dJ : ps[j]'(by rw [HN.out]; exact hjn) = ps.getD (ps.length - 1 - k) (none, 0, []) := by rw [show ps.length - 1 - k = j by rw [HN.out]; omega, List.getD_eq_getElem?_getD, List.getElem?_eq_getElem (by rw [HN.out]; exact hjn)]; rfl
      have L1 := (hL.set k (q := ps[j]'(by rw [HN.out]; exact hjn)) mJ.1 mJ.2)
      have mK1 : BSA (wr.setCell ⟨g, k, none⟩ (partV (ps[j]'(by rw [HN.out]; exact hjn)))) _ _ _ := mK.1.keeps' (keeps_one wr g k _) (fun ad e hl hx => mK.2 hl ⟨g, 0, none⟩ ad rfl e hx)
      have L2 := L1.set j (q := ps[k]'(by rw [HN.out]; exact hkn)) mK1 mK.2
      have eL : ((revS ps k).set k (ps[j]'(by rw [HN.out]; exact hjn))).set j (ps[k]'(by rw [HN.out]; exact hkn)) = revS ps (k + 1) := by
        rw [dK, dJ]
        show _ = ((revS ps k).set k _).set (ps.length - 1 - k) _
        rw [show ps.length - 1 - k = j by rw [HN.out]; omega]
      rw [eL] at L2
      have K2 := (hK.setCell (p := ⟨g, k, none⟩) (fun _ => rfl) (partV (ps[j]'(by rw [HN.out]; exact hjn)))).setCell (p := ⟨g, j, none⟩) (fun _ => rfl) (partV (ps[k]'(by rw [HN.out]; exact hkn)))
      obtain ⟨a1, m1, c1, hv1⟩ : ∃ a m c, partV (ps[k]'(by rw [HN.out]; exact hkn)) = .slice a m c := ⟨_, _, _, rfl⟩
      obtain ⟨a2, m2, c2, hv2⟩ : ∃ a m c, partV (ps[j]'(by rw [HN.out]; exact hjn)) = .slice a m c := ⟨_, _, _, rfl⟩
      rw [hv1] at cK K2 L2
      rw [hv2] at cJ K2 L2
      obtain ⟨cur, hcur⟩ := own_typ hL.1 (k := g) rfl
      have zK := free_at hcur k
      have zJ := free_at hcur j
      have i1 := eq_true (show (k : Int) < (n : Int) by omega)
      have i2 := eq_true (show (j : Int) < (n : Int) by omega)
      have GG := hid (And.intro L2 K2)
      have HJ := hid hj
      have HK := hid hkn
      clear hL hK eK eJ mK mJ dK dJ L1 mK1 L2 eL K2 hv1 hv2 hcur hj hlt hjn hkn
      go_wp2
      refine start_ (n := 16) (S := fun w' => w'.cell? ⟨g, k, none⟩ = some (.slice a1 m1 c1) ∧ w'.cell? ⟨g, j, none⟩ = some (.slice a2 m2 c2)) (ds := [13, 15]) #[false, false, false, false, false, false, false, false, false, false, false, false, false, false, false, false] (by kernel_rfl) rfl rfl ⟨cK, cJ⟩ (fun hHeld => ?_)
      refine pure_ (i := 0) (N := some 14) (v := ?_) (a' := ?_) #[true, false, false, false, false, false, false, false, false, false, false, false, false, false, false, false] rfl rfl (by kernel_rfl) (fun _ _ _ h => h) (Or.inl ⟨by rfl, ?_⟩) ?_ ?_
      rotate_left
      · intro w'
        go_simp
        with_reducible rfl
      rotate_left
      · simp only [Act.put, List.setIfInBounds_toArray, List.set_cons_zero, List.set_cons_succ, i64_w, i32_w]
        rfl
      refine pure_ (i := 1) (N := some 15) (v := ?_) (a' := ?_) #[true, true, false, false, false, false, false, false, false, false, false, false, false, false, false, false] rfl rfl (by kernel_rfl) (fun _ _ _ h => h) (Or.inl ⟨by rfl, ?_⟩) ?_ ?_
      rotate_left
      · intro w'
        go_simp
        with_reducible rfl
      rotate_left
      · simp only [Act.put, List.setIfInBounds_toArray, List.set_cons_zero, List.set_cons_succ, i64_w, i32_w]
        rfl
      refine pure_ (i := 2) (N := some 16) (v := ?_) (a' := ?_) #[true, true, true, false, false, false, false, false, false, false, false, false, false, false, false, false] rfl rfl (by kernel_rfl) (fun _ _ _ h => h) (Or.inl ⟨by rfl, ?_⟩) ?_ ?_
      rotate_left
      · intro w'
        go_simp
        with_reducible rfl
      rotate_left
      · simp only [Act.put, List.setIfInBounds_toArray, List.set_cons_zero, List.set_cons_succ, i64_w, i32_w]
        rfl
      refine pure_ (i := 3) (N := some 17) (v := ?_) (a' := ?_) #[true, true, true, true, false, false, false, false, false, false, false, false, false, false, false, false] rfl rfl (by kernel_rfl) (fun _ _ _ h => h) (Or.inl ⟨by rfl, ?_⟩) ?_ ?_
      rotate_left
      · intro w'
        go_simp
        with_reducible rfl
      rotate_left
      · simp only [Act.put, List.setIfInBounds_toArray, List.set_cons_zero, List.set_cons_succ, i64_w, i32_w]
        rfl
      refine pure_ (i := 4) (N := some 18) (v := ?_) (a' := ?_) #[true, true, true, true, true, false, false, false, false, false, false, false, false, false, false, false] rfl rfl (by kernel_rfl) (fun _ _ _ h => h) (Or.inl ⟨by rfl, ?_⟩) ?_ ?_
      rotate_left
      · intro w'
        go_simp
        with_reducible rfl
      rotate_left
      · simp only [Act.put, List.setIfInBounds_toArray, List.set_cons_zero, List.set_cons_succ, i64_w, i32_w]
        rfl
      refine pure_ (i := 5) (N := some 19) (v := ?_) (a' := ?_) #[true, true, true, true, true, true, false, false, false, false, false, false, false, false, false, false] rfl rfl (by kernel_rfl) (fun _ _ _ h => h) (Or.inl ⟨by rfl, ?_⟩) ?_ ?_
      rotate_left
      · intro w'
        go_simp
        with_reducible rfl
      rotate_left
      · simp only [Act.put, List.setIfInBounds_toArray, List.set_cons_zero, List.set_cons_succ, i64_w, i32_w]
        rfl
      refine pure_ (i := 6) (N := some 20) (v := ?_) (a' := ?_) #[true, true, true, true, true, true, true, false, false, false, false, false, false, false, false, false] rfl rfl (by kernel_rfl) (fun _ _ _ h => h) (Or.inl ⟨by rfl, ?_⟩) ?_ ?_
      rotate_left
      · intro w'
        go_simp
        with_reducible rfl
      rotate_left
      · simp only [Act.put, List.setIfInBounds_toArray, List.set_cons_zero, List.set_cons_succ, i64_w, i32_w]
        rfl
      refine pure_ (i := 8) (N := some 22) (v := ?_) (a' := ?_) #[true, true, true, true, true, true, true, false, true, false, false, false, false, false, false, false] rfl rfl (by kernel_rfl) (fun _ _ _ h => h) (Or.inl ⟨by rfl, ?_⟩) ?_ ?_
      rotate_left
      · intro w'
        go_simp
        with_reducible rfl
      rotate_left
      · simp only [Act.put, List.setIfInBounds_toArray, List.set_cons_zero, List.set_cons_succ, i64_w, i32_w]
        rfl
      refine pure_ (i := 9) (N := some 23) (v := ?_) (a' := ?_) #[true, true, true, true, true, true, true, false, true, true, false, false, false, false, false, false] rfl rfl (by kernel_rfl) (fun _ _ _ h => h) (Or.inl ⟨by rfl, ?_⟩) ?_ ?_
      rotate_left
      · intro w'
        go_simp
        with_reducible rfl
      rotate_left
      · simp only [Act.put, List.setIfInBounds_toArray, List.set_cons_zero, List.set_cons_succ, i64_w, i32_w]
        rfl
      refine pure_ (i := 10) (N := some 24) (v := ?_) (a' := ?_) #[true, true, true, true, true, true, true, false, true, true, true, false, false, false, false, false] rfl rfl (by kernel_rfl) (fun _ _ _ h => h) (Or.inl ⟨by rfl, ?_⟩) ?_ ?_
      rotate_left
      · intro w'
        go_simp
        with_reducible rfl
      rotate_left
      · simp only [Act.put, List.setIfInBounds_toArray, List.set_cons_zero, List.set_cons_succ, i64_w, i32_w]
        rfl
      refine take_ (i := 7) (N := some 21) (v := ?_) (a' := ?_) #[true, true, true, true, true, true, true, true, true, true, true, false, false, false, false, false] rfl rfl (by kernel_rfl) (fun _ _ _ h => h) (Or.inl ⟨by rfl, ?_⟩) hHeld ?_ ?_
      rotate_left
      · rintro w' ⟨s0, s1⟩
        go_simp
        with_reducible rfl
      rotate_left
      · simp only [Act.put, List.setIfInBounds_toArray, List.set_cons_zero, List.set_cons_succ, i64_w, i32_w]
        rfl
      refine take_ (i := 11) (N := some 25) (v := ?_) (a' := ?_) #[true, true, true, true, true, true, true, true, true, true, true, true, false, false, false, false] rfl rfl (by kernel_rfl) (fun _ _ _ h => h) (Or.inl ⟨by rfl, ?_⟩) hHeld ?_ ?_
      rotate_left
      · rintro w' ⟨s0, s1⟩
        go_simp
        with_reducible rfl
      rotate_left
      · simp only [Act.put, List.setIfInBounds_toArray, List.set_cons_zero, List.set_cons_succ, i64_w, i32_w]
        rfl
      refine pure_ (i := 12) (N := some 26) (v := ?_) (a' := ?_) #[true, true, true, true, true, true, true, true, true, true, true, true, true, false, false, false] rfl rfl (by kernel_rfl) (fun _ _ _ h => h) (Or.inl ⟨by rfl, ?_⟩) ?_ ?_
      rotate_left
      · intro w'
        go_simp
        with_reducible rfl
      rotate_left
      · simp only [Act.put, List.setIfInBounds_toArray, List.set_cons_zero, List.set_cons_succ, i64_w, i32_w]
        rfl
      refine last_ (i := 13) (N := none) #[true, true, true, true, true, true, true, true, true, true, true, true, true, true, false, false] rfl rfl (by kernel_rfl) (by decide) (fun K hK => ?_)
      refine skip_ (w1 := ?_) (by rfl) rfl ?_ ?_
      rotate_left
      · go_simp
        rfl
      refine hK.out _ _ ?_
      clear hK K
      refine pure_ (i := 14) (N := some 27) (v := ?_) (a' := ?_) #[true, true, true, true, true, true, true, true, true, true, true, true, true, true, true, false] rfl rfl (by kernel_rfl) (fun _ _ _ h => h) (Or.inl ⟨by rfl, ?_⟩) ?_ ?_
      rotate_left
      · intro w'
        go_simp
        with_reducible rfl
      rotate_left
      · simp only [Act.put, List.setIfInBounds_toArray, List.set_cons_zero, List.set_cons_succ, i64_w, i32_w]
        rfl
      refine last_ (i := 15) (N := none) #[true, true, true, true, true, true, true, true, true, true, true, true, true, true, true, true] rfl rfl (by kernel_rfl) (by decide) (fun K hK => ?_)
      refine skip_ (w1 := ?_) (by rfl) rfl ?_ ?_
      rotate_left
      · go_simp
        rfl
      refine hK.out _ _ ?_
      clear hK K
      refine done_ (by kernel_rfl) ?_
      have h2k : 2 * (k + 1) ≤ n := by have := HJ.out; omega
      have hj2 : (n : Int) - 1 - ((k + 1 : Nat) : Int) = (j : Int) - 1 := by have := HJ.out; omega
      have HJ2 := hid hj2
      clear cK cJ zK zJ i1 i2 hkj hj2
      go_wp2
      go_roundw
      case rel => exact ⟨k + 1, h2k, by go_num, by rw [HJ2.out, wrap64_is _ (by have := HJ.out; omega)], GG.out.1, GG.out.2.drew⟩
      case measure =>
        have hk2 := HK.out
        dsimp only [intOf]
        omega
    · have E := revS_end ps k (by rw [HN.out]; exact hk) (by rw [HN.out]; omega)
      rw [E] at hL
      have t1 : decide ((k : Int) < (n : Int) - 1 - (k : Int)) = false := by simp; omega
      have GG := hid (And.intro hL hK)
      clear hL hK E
      go_wp2
      go_end0
      exact ⟨rfl, GG.out.1, GG.out.2⟩
end Go.Proofs.YtdhhaibefifdmaaGreatDoor

/- The library's Backward: its function's contract; the lists' append as a run. -/
namespace Go.Proofs.YtdhhaibefifdmaaGreatDoor
open Go.RowKit PrintLast

theorem LB.app_run {w : World} {B c N : Nat} {R : Option Addr} {ps : List Part} (hR : LB w B R c ps) (hN : ps.length = N) (hB : B ≤ w.heap.size) {g : Nat} {q : Part} (hc : w.cell? ⟨g, 0, none⟩ = some (partV q)) (hq : BSA w q.1 q.2.1 q.2.2) (hf : FarB R q) (hb : N ≤ 1000000) (ty : TypeId) :
    ∃ g' c' w', (Builtin.append_ #[24, 24] ty #[.slice R N c, .slice (some ⟨g, 0, none⟩) 1 1]).run Tryz.prog w = .ok (.slice (some ⟨g', 0, none⟩) (N + 1) c') w' ∧ LB w' B (some ⟨g', 0, none⟩) c' (ps ++ [q]) ∧ Below B w w' ∧ w.grownBy w' (Value.slice R N c).ownBlock := by
  subst hN
  obtain ⟨i0, hi, hz0, hz1, hz2⟩ := info_parts infL8
  obtain ⟨g', c', w', h1, h2, h3, h4, h5⟩ := run_append_lies (P := Tryz.prog) w 24 ty 0 22 i0 (.slice none 0 0) 1 24 Tryz.underlying24 hi hz0 hz1 hz2 rfl (by decide) _ ps.length (ps.map partV) (own_lower hR.1 (Nat.zero_le _)) ⟨g, 0, none⟩ 1 1 [partV q] rfl (fun j u hj => by
    match j, hj with
    | 0, hj => simp at hj; subst hj; rw [add_plain]; exact hc) (partV_one [q]) (by decide) (by unfold maxLen; omega) (by omega) (Nat.zero_le _) _ rfl
  obtain ⟨k1, k2⟩ := hR.grow (qs := [q]) hB (fun y hy => (by
    have hyq : y = q := by simpa using hy
    rw [hyq]
    exact ⟨hq, hf⟩)) h2 h3 (by
    rcases h4 with h4 | h4
    · exact .inl h4.symm
    · exact .inr (by rw [h4]; rfl))
  exact ⟨g', c', w', h1, k1, k2, h3⟩

abbrev Rnd := { x : Nat × ByteArray // x.1 < 100000 ∧ x.2.size ≤ 1000000 }
def encR (x : Rnd) : Array Value := #[.int .i64 (x.1.1 : Int), .string x.1.2]
/-- What has come when k rounds are over. -/
def backS (side : List ByteArray) (k : Nat) : List (Nat × ByteArray) := (List.range k).map fun j => (side.length - 1 - j, side.getD (side.length - 1 - j) ⟨#[]⟩)
theorem backS_succ (side : List ByteArray) (k : Nat) : backS side (k + 1) = backS side k ++ [(side.length - 1 - k, side.getD (side.length - 1 - k) ⟨#[]⟩)] := by
  unfold backS
  rw [List.range_succ, List.map_append]
  rfl
theorem backS_length (side : List ByteArray) (k : Nat) : (backS side k).length = k := by simp [backS]
/-- What the rounds keep that the iterator reads. -/
def KpB (n₀ Bs : Nat) (W W' : World) : Prop := Below n₀ W W' ∧ ∀ o, W.heap[Bs]? = some o → W'.heap[Bs]? = some o
theorem KpB.refl (n₀ Bs : Nat) (W : World) : KpB n₀ Bs W W := ⟨Below.refl _ _, fun _ h => h⟩
theorem KpB.trans {n₀ Bs : Nat} {A B C : World} (h : KpB n₀ Bs A B) (k : KpB n₀ Bs B C) : KpB n₀ Bs A C := ⟨h.1.trans k.1, fun o ho => k.2 o (h.2 o ho)⟩

attribute [local go_sem] Oper.semAt_some
set_option maxRecDepth 100000 in
set_option maxHeartbeats 3200000 in
theorem back1_in (m : Nat) (hm : 1 ≤ m) (l Bs n₀ c N : Nat) (A : Option Addr) (side : List ByteArray) (hN : side.length = N) (hb : N ≤ 1000) (hs : ∀ s ∈ side, s.size ≤ 1000000) (J Jx : List Rnd → World → Prop)
    (hY : ∀ pre x W, J pre W → pre.length < N → YieldAt Fence.wide (m - 1) Tryz.prog l (encR x) W fun e W' =>
      (e = .returned (.bool true) ∧ J (pre ++ [x]) W' ∧ KpB n₀ Bs W W') ∨ (e = .returned (.bool false) ∧ Jx (pre ++ [x]) W'))
    (W : World) (hBs : ∃ t, W.heap[Bs]? = some (.cells #[.slice A N c] t (0, 0))) (hT : TxtAt W A side) (hlow : ∀ ad, A = some ad → 0 < N → ad.block < n₀) (h0 : J [] W) :
    CallsIn Fence.wide m Tryz.prog 66 #[.func (.yield l) #[] #[], .pointer (some ⟨Bs, 0, none⟩)] W fun e W' => (∃ v, e = .returned v) ∧
      ((∃ ys : List Rnd, ys.map Subtype.val = backS side N ∧ J ys W') ∨ (∃ pre : List Rnd, pre.length ≤ N ∧ Jx pre W')) := by
  have HN := hid hN
  have HTX := hid hT
  have HL := hid hlow
  have HSI := hid hs
  obtain ⟨tb, hBs⟩ := hBs
  have HB := hid hBs
  have c0 := cell_at hBs (i := 0) (v := .slice A N c) rfl
  have P0 : Hid (([] : List Rnd).map Subtype.val = backS side 0) := hid rfl
  have K0 := KpB.refl n₀ Bs W
  clear hN hT hlow hs hBs
  refine callsIn_of_wp Tryz.func66 rfl trivial ?_ rfl
  simp only [Tryz.ntmps66, List.size_toArray, List.length_cons, List.length_nil, Nat.reduceAdd, Nat.reduceSub, Array.replicate_succ, Array.replicate_zero, List.push_toArray, List.append_toArray, List.nil_append, List.cons_append]
  gi_wp2
  gi_loopw [3] (fun i wr => ∃ (k : Nat) (pre : List Rnd), k ≤ N ∧ i = .int .i64 ((N : Int) - 1 - k) ∧ Hid (pre.map Subtype.val = backS side k) ∧ J pre wr ∧ KpB n₀ Bs W wr) (fun i _ => (intOf i + 1).toNat)
  case atStart => exact ⟨0, [], Nat.zero_le _, by simp, P0, h0, K0⟩
  case round =>
    clear h0 P0 K0 c0
    obtain ⟨k, pre, hk, rfl, hP, hJ, hK⟩ := hrel
    have hB := hK.2 _ HB.out
    have cB := cell_at hB (i := 0) (v := .slice A N c) rfl
    by_cases hlt : k < N
    · obtain ⟨j, hj⟩ : ∃ j : Nat, (N : Int) - 1 - k = (j : Int) := ⟨N - 1 - k, by omega⟩
      have hjN : j < side.length := by rw [HN.out]; omega
      obtain ⟨g, o, rfl, hc⟩ := HTX.out.at_ j hjN
      have hce : wr.cell? ⟨g, o + j, none⟩ = some (.string side[j]) := (hK.1.cell (p := ⟨g, o + j, none⟩) (HL.out ⟨g, o, none⟩ rfl (by omega))).trans hc
      obtain ⟨s, hs⟩ : ∃ s, s = side[j] := ⟨_, rfl⟩
      rw [← hs] at hce
      have hss : s.size ≤ 1000000 := by rw [hs]; exact HSI.out _ (List.getElem_mem hjN)
      have hpl : pre.length < N := by
        have := congrArg List.length hP.out
        rw [List.length_map, backS_length] at this
        omega
      have hpr : (j, s).1 < 100000 ∧ (j, s).2.size ≤ 1000000 := ⟨by simp only; omega, hss⟩
      obtain ⟨fn, tmps, assign, body, hy, hR⟩ := hY pre ⟨(j, s), hpr⟩ wr hJ hpl
      have HP2 : Hid ((pre ++ [(⟨(j, s), hpr⟩ : Rnd)]).map Subtype.val = backS side (k + 1)) := hid (by
        rw [List.map_append, hP.out, backS_succ]
        have e1 : side.length - 1 - k = j := by rw [HN.out]; omega
        rw [e1, List.getD_eq_getElem?_getD, List.getElem?_eq_getElem hjN]
        show backS side k ++ [(j, s)] = _
        rw [hs]
        rfl)
      dsimp only [encR] at hy
      rw [hj]
      have i1 : (j : Int) < (N : Int) := by omega
      have hj0 : (0 : Int) ≤ (j : Int) := by omega
      have t1 : decide ((0 : Int) ≤ (j : Int)) = true := decide_eq_true hj0
      have hj2 : (N : Int) - 1 - ((k + 1 : Nat) : Int) = (j : Int) - 1 := by omega
      have HJ2 := hid (And.intro hj2 (show k + 1 ≤ N by omega))
      have HJ3 := hid (show j ≤ 1000 by omega)
      clear hP hJ hs hpl hj2 hjN hB hc hj
      gi_wp2
      refine hR.mono ?_
      rintro e W3 (⟨rfl, hJ3, hk3⟩ | ⟨rfl, hJx3⟩)
      · have K3 := hK.trans hk3
        clear hK hk3 cB hce
        gi_wp2
        go_roundw
        case rel => exact ⟨k + 1, _, HJ2.out.2, by rw [HJ2.out.1]; try rw [wrap64_is _ (by have := HJ3.out; omega)], HP2, hJ3, K3⟩
        case measure => have := HJ3.out; simp [intOf]; try omega
      · gi_wp2
        refine bodyPost_ret (results_none rfl _ _ _) rfl ?_
        refine ⟨⟨_, rfl⟩, .inr ⟨_, ?_, hJx3⟩⟩
        have := congrArg List.length HP2.out
        rw [List.length_map, backS_length] at this
        rw [this]
        exact HJ2.out.2
    · obtain rfl : k = N := by omega
      have t1 : decide ((0 : Int) ≤ (k : Int) - 1 - (k : Int)) = false := by simp; omega
      gi_wp2
      go_end0
      exact ⟨⟨_, rfl⟩, .inl ⟨_, hP.out, hJ⟩⟩
end Go.Proofs.YtdhhaibefifdmaaGreatDoor

/- The walk of the laid's steps. -/
namespace Go.Proofs.YtdhhaibefifdmaaGreatDoor
open Go.RowKit PrintLast

theorem back_any {w : World} {A : Option Addr} {N c : Nat} :
    Calls Tryz.prog 34 #[.slice A N c] w fun e w' => e = .returned (.func (.func 66) #[] #[.pointer (some ⟨w.heap.size, 0, none⟩)]) ∧ w.alloc (.cells #[.slice A N c] 41) = w' := by
  have hmf : ∀ (fn : Fn) (first cap : Array Value) (w : World), (Instr.makeFunc fn first cap).run Tryz.prog w = .ok (.func fn first cap) w := fun _ _ _ _ => rfl
  go_enter Tryz.func34, Tryz.ntmps34
  go_wp2
  go_ret
  exact ⟨rfl, rfl⟩

/-- What is hashed, upwards: of the rounds that have come. -/
def upP (path D : List UInt8) (pre : List (Nat × ByteArray)) : List (List UInt8) := pre.foldl (fun L x => stepU path x.1 x.2 (L.headD []) :: L) [D]
theorem upP_snoc (path D : List UInt8) (pre : List (Nat × ByteArray)) (x : Nat × ByteArray) : upP path D (pre ++ [x]) = stepU path x.1 x.2 ((upP path D pre).headD []) :: upP path D pre := by simp [upP]
theorem upP_top (path D : List UInt8) (pre : List (Nat × ByteArray)) : ∃ h r, upP path D pre = h :: r := by
  rcases List.eq_nil_or_concat pre with rfl | ⟨p, x, rfl⟩
  · exact ⟨D, [], rfl⟩
  · rw [List.concat_eq_append, upP_snoc]
    exact ⟨_, _, rfl⟩
theorem upP_back (path D : List UInt8) (side : List ByteArray) (k : Nat) : k ≤ side.length → upP path D (backS side k) = wayS path D (side.length - k) (side.drop (side.length - k)) := by
  induction k with
  | zero =>
    intro _
    rw [Nat.sub_zero, List.drop_length]
    rfl
  | succ k ih =>
    intro hk
    have h := ih (by omega)
    have hj : side.length - 1 - k < side.length := by omega
    have e1 : side.length - k = side.length - 1 - k + 1 := by omega
    have e2 : side.length - (k + 1) = side.length - 1 - k := by omega
    rw [backS_succ, upP_snoc, h, e1, e2, List.drop_eq_getElem_cons hj, wayS_cons, List.getD_eq_getElem?_getD, List.getElem?_eq_getElem hj]
    rfl
theorem LB.kept {W W' : World} {B c : Nat} {A : Option Addr} {ps : List Part} {row : Option Nat} (h : LB W B A c ps) (hg : W.grownBy W' row) (hr : ∀ r, row = some r → ∃ o : Obj, W.heap[r]? = some o ∧ o.isCells = false) : LB W' B A c ps := by
  refine ⟨World.ownsRow.kept h.1 hg ?_, fun x hx => ⟨(h.2 x hx).1.moved (fun ad v hc _ => cell_kept hc hg hr), (h.2 x hx).2⟩⟩
  cases hA : (Value.slice A ps.length c).ownBlock with
  | none => exact .inl rfl
  | some k =>
    refine .inr (fun e => ?_)
    obtain ⟨cur, h1⟩ := own_typ h.1 hA
    obtain ⟨o, h2, h3⟩ := hr k e.symm
    rw [h1] at h2
    cases h2
    cases h3
theorem cells_kept {W W' : World} {row : Option Nat} {k : Nat} {cs : Array Value} {t : TypeId} {fr : Nat × Nat} (h : W.heap[k]? = some (.cells cs t fr)) (hg : W.grownBy W' row) (hr : ∀ r, row = some r → ∃ o : Obj, W.heap[r]? = some o ∧ o.isCells = false) : W'.heap[k]? = some (.cells cs t fr) := by
  refine (hg.block k (lt_of_block h) (fun e => ?_)).trans h
  obtain ⟨o, h2, h3⟩ := hr k e.symm
  rw [h] at h2
  cases h2
  cases h3
/-- Between two rounds. -/
def StI (w : World) (S Sp Sl Bs : Nat) (lv bv : Array Value) (K : ByteArray) (path D : List UInt8) (pre : List Rnd) (W : World) : Prop :=
  ((∃ R c' ps M, W.heap[Sl]? = some (.cells #[.slice R (M + 1) c'] 24 (0, 0)) ∧ LB W S R c' ps ∧ Hid (ps.length = M + 1 ∧ M = pre.length ∧ txs ps = (upP path D (pre.map Subtype.val)).reverse ∧ ∀ t ∈ txs ps, t.length ≤ 2000000)) ∧ W.heap[Sp]? = some (.cells #[.string K] 9 (0, 0)) ∧ W.heap[S]? = some (.cells lv 54 (0, 0)) ∧ W.heap[Bs]? = some (.cells bv 41 (0, 0))) ∧ Below S w W
theorem StI.own (w : World) (S Sp Sl Bs : Nat) (lv bv : Array Value) (K : ByteArray) (path D : List UInt8) (B : Nat) (hS : S ≤ w.heap.size) (hB : S ≤ B) : OwnFrom B (StI w S Sp Sl Bs lv bv K path D) :=
  OwnFrom.and (Own.from (fun s W W' row hs hg hr => by
    obtain ⟨⟨R, c', ps, M, h1, h2, h3⟩, h4, h5, h6⟩ := hs
    exact ⟨⟨R, c', ps, M, cells_kept h1 hg hr, h2.kept hg hr, h3⟩, cells_kept h4 hg hr, cells_kept h5 hg hr, cells_kept h6 hg hr⟩) B) (ownFrom_below hS hB)
/-- A list beside the box in which a list's slice lies. -/
theorem LB.far {w w' : World} {B c b N d : Nat} {A R : Option Addr} {ps : List Part} {t : TypeId} (h : LB w B A c ps) (hk : Keeps (fun k => k = b) w w') (hb : w.heap[b]? = some (.cells #[.slice R N d] t (0, 0))) (ht : t ≠ 22) : LB w' B A c ps := by
  refine ⟨own_far h.1 hk hb ht, fun x hx => ⟨(h.2 x hx).1.keeps' hk (fun ad e hl hc => ?_), (h.2 x hx).2⟩⟩
  have h1 := (h.2 x hx).1.2.2.2 ad e 0 hl
  obtain ⟨g, o, sp⟩ := ad
  have hs : sp = none := by simpa [Addr.add] using World.cell?_spot h1
  subst hs
  rw [add_at] at h1
  obtain rfl : g = b := hc
  rw [cell_of_row w g (o + 0) _ t (0, 0) hb] at h1
  match o, h1 with
  | 0, h1 => simp at h1
  | o + 1, h1 => simp at h1
theorem keeps_others {w w' : World} (b : Below w.heap.size w w') : KeepsOthers w w' := ⟨b.size, fun k o hk _ => (b.block k (Array.getElem?_eq_some_iff.1 hk).1).trans hk⟩
/-- The last of a list. -/
theorem last_text {ps : List Part} {h : List UInt8} {r : List (List UInt8)} (e : txs ps = (h :: r).reverse) (hl : ps.length - 1 < ps.length) : (ps[ps.length - 1]).2.2 = h := by
  have h1 : (txs ps)[ps.length - 1]? = some h := by
    rw [e, List.reverse_cons]
    have : ps.length - 1 = r.reverse.length := by
      have := congrArg List.length e
      rw [txs_length] at this
      simp at this
      simp [this]
    rw [this, List.getElem?_concat_length]
  rw [txs, List.getElem?_map, List.getElem?_eq_getElem hl] at h1
  simpa using h1

theorem LB.lit_n {w : World} {A : Option Addr} {c N : Nat} {T : List UInt8} (hN : N = T.length) (h : BSA w A c T) : LB (w.alloc (.cells #[.slice A N c] 22)) w.heap.size (some ⟨w.heap.size, 0, none⟩) 1 [(A, c, T)] := by
  subst hN
  exact LB.lit (x := (A, c, T)) h
theorem far_one {R : Option Addr} {x : Part} (h : FarB R x) : ∀ q ∈ [x], FarB R q := by
  intro q hq
  have e : q = x := by simpa using hq
  rw [e]
  exact h
/-- How a body is left that holds a range over a function; never by a panic. -/
def postM (F : Fence) (n : Nat) (P : Program) (fn : Func) (R : Ending → World → Prop) : Exit → Act → World → Prop
  | .normal, a, w => LeavesInM F n P fn a.tmps R a.defers .returning w
  | .ret, a, w => LeavesInM F n P fn a.tmps R a.defers .returning w
  | _, _, _ => False
theorem postM_body {F : Fence} {n : Nat} {P : Program} {fn : Func} {R : Ending → World → Prop} : ∀ (e : Exit) (a : Act) (w : World), postM F n P fn R e a w → bodyPostM F n P fn R e a w := by
  intro e a w h
  cases e <;> first | exact h | exact h.elim
/-- An 'append' in a round's region that draws its order. -/
theorem stepIn_app {P : Program} {ops : Array Oper} {o : Oper} {a : Act} {w w' : World} {K : Act → World → Prop} {Q : Exit → Act → World → Prop} {E : Prop} {l n : Nat} (hgd : o.guard = none) (s x : Operand) (t : TypeId)
    (ho : o.op = .call { callee := .builtin .append, args := #[s, x], argTypes := #[t, t] }) {v u r : Value} (hs : a.eval s = v) (hx : a.eval x = u) (hrun : (Builtin.append_ #[t, t] o.type #[v, u]).run P w = .ok r w')
    (h : K (a.put o.dst r) w') : if Region.wanted o (yielded ops a.tmps) = true then Oper.wpIn (Fence.wide.inRound l) n P o a w K Q else E := by
  rw [if_pos (by simp [Region.wanted, hgd])]
  refine ⟨fun f _ => trivial, ?_⟩
  rw [Oper.semAt_eq _ _ _ (by intro c; rw [ho]; simp)]
  unfold execOp
  simp only [ho, resolve, invoke, builtin, Sem.run_bind, Sem.run_pure, Result.andThen_ok, List.map_toArray, List.map_cons, List.map_nil, hs, hx, hrun]
  exact h

attribute [local go_sem] Oper.semAt_some
set_option maxRecDepth 100000 in
set_option maxHeartbeats 6400000 in
theorem lsteps_any {w : World} (hT : Table w) {A B : Option Addr} {n c m d : Nat} {kd : Int} {ky key s1 s2 : ByteArray} {px : Prf} (hpx : LaidAt w A n c kd ky B m d px) (hk : key.size ≤ 60000) (hf : Fits px) (hs1 : s1.size ≤ 1000000) (hs2 : s2.size ≤ 1000000) :
    Calls Tryz.prog 16 #[.agg (laidV A n c kd ky B m d s1 s2), .string key] w fun e w' => ∃ R c' N ps, e = .returned (.slice R N c') ∧ Hid (ps.length = N ∧ txs ps = stepsB key s1 s2 px) ∧ LB w' w.heap.size R c' ps ∧ Below w.heap.size w w' := by
  unfold laidV
  have al := below_alloc (Below.refl _ w) (.cells #[.slice A n c, .int .u8 kd, .string ky, .slice B m d, .string s1, .string s2] 54)
  have g0 := heap_alloc_new w (.cells #[.slice A n c, .int .u8 kd, .string ky, .slice B m d, .string s1, .string s2] 54)
  have FX := hid hf
  have T0 := hid hT
  have LX := hid (hpx.below al)
  have TT := hid (hT.below al)
  obtain ⟨S, hS⟩ : ∃ S, S = w.heap.size := ⟨_, rfl⟩
  have HS := hid hS
  have ks : key.size ≤ maxLen := by unfold maxLen; omega
  have BB := hid al
  have HLOW := hid (show ∀ ad, A = some ad → 0 < n → ad.block < S from fun ad e h0 => by
    have := World.block_lt_of_cell? w _ (hpx.1.2.2.2.1.2 ad e 0 (by rw [hpx.1.1]; exact h0))
    rw [addr_add_block] at this
    rw [hS]; exact this)
  rw [← hS] at g0
  have G0 := hid g0
  clear hpx hT hf al hS g0
  refine callsIn_wide.1 (callsIn_of_wp_marks (n := 10) Tryz.func16 rfl trivial ?_)
  refine Go.wpIn_mono (wpIn_wide.2 ?_) postM_body
  simp only [Tryz.ntmps16, List.size_toArray, List.length_cons, List.length_nil, Nat.reduceAdd, Nat.reduceSub, Array.replicate_succ, Array.replicate_zero, List.push_toArray, List.append_toArray, List.nil_append, List.cons_append]
  go_upto_region 1 with fail
  rw [← HS.out]
  generalize w.alloc (.cells #[.slice A n c, .int .u8 kd, .string ky, .slice B m d, .string s1, .string s2] 54) = W at *
  go_wp2_with (refine wpList_conv rfl (.tmp 11) rfl key rfl ks ?_)
  intro g1 c1 w1 _ q1 b1
  replace G0 := hid (below_heap b1 G0.out)
  replace TT := hid (TT.out.below b1)
  replace LX := hid (LX.out.below b1)
  replace BB := hid (below_then BB.out b1)
  have HC1 := hid (sum_dig (bsz key) TT.out q1 (by rw [bsz]; omega))
  clear b1 q1
  go_wp2_with fail
  refine HC1.out.mono ?_
  rintro e w2 ⟨rfl, b2⟩
  replace G0 := hid (below_heap b2 G0.out)
  replace TT := hid (TT.out.below b2)
  replace LX := hid (LX.out.below b2)
  replace BB := hid (below_then BB.out b2)
  obtain ⟨K, hK⟩ : ∃ K, K = dig key.data.toList := ⟨_, rfl⟩
  rw [← hK]
  have HK := hid hK
  clear HC1 b2 hK
  go_upto_region 2 with fail
  obtain ⟨Sp, hSp⟩ : ∃ Sp, Sp = w2.heap.size := ⟨_, rfl⟩
  have gp := heap_alloc_new w2 (.cells #[.string K] 9)
  have b3 := below_alloc (Below.refl _ w2) (.cells #[.string K] 9)
  have sp0 : S < Sp := by rw [hSp]; exact lt_of_block G0.out
  rw [← hSp] at gp ⊢
  replace G0 := hid (below_heap b3 G0.out)
  replace TT := hid (TT.out.below b3)
  replace LX := hid (LX.out.below b3)
  replace BB := hid (below_then BB.out b3)
  clear b3 hSp
  generalize w2.alloc (.cells #[.string K] 9) = w3 at *
  have GP := hid gp
  obtain ⟨v0, v1, v2, v3, v4, v5, -, -, -, -, -, -⟩ := six G0.out
  have HE0 := vend_any (s1 := s1) (s2 := s2) (key := key) LX.out (by omega) FX.out
  unfold laidV at HE0
  have HE := hid HE0
  clear HE0 gp
  go_wp2_with fail
  with_reducible refine HE.out.mono ?_
  rintro e w4 ⟨A4, c4, rfl, r4, b4⟩
  replace G0 := hid (below_heap b4 G0.out)
  replace GP := hid (below_heap b4 GP.out)
  replace TT := hid (TT.out.below b4)
  replace LX := hid (LX.out.below b4)
  replace BB := hid (below_then BB.out b4)
  obtain ⟨D, hD⟩ : ∃ D, D = endD key px := ⟨_, rfl⟩
  rw [← hD] at r4 ⊢
  have HD := hid hD
  have DL := hid (show D.length ≤ 100000 by
    rw [hD]
    unfold endD
    have q1 := FX.out.2.2.2.1
    have q2 := FX.out.2.2.2.2.1
    split
    · rw [leafB_length]; simp; omega
    · split
      · rw [leafB_length]; simp; omega
      · simp)
  obtain ⟨N4, hN4⟩ : ∃ N4, N4 = D.length := ⟨_, rfl⟩
  rw [← hN4] at DL ⊢
  have R4 := hid (And.intro r4.bsa hN4)
  clear r4 b4 HE v0 v1 v2 v3 v4 v5 hD hN4
  go_upto_region 3 with fail
  obtain ⟨g4, hg4⟩ : ∃ g4, g4 = w4.heap.size := ⟨_, rfl⟩
  have sg4 : S ≤ w4.heap.size := by have := lt_of_block G0.out; omega
  have l4 : LB (w4.alloc (.cells #[.slice A4 N4 c4] 22)) S (some ⟨g4, 0, none⟩) 1 [(A4, c4, D)] := by
    have h := (LB.lit (w := w4) (x := (A4, c4, D)) R4.out.1).lower sg4
    rw [show partV (A4, c4, D) = .slice A4 N4 c4 by rw [R4.out.2]; rfl, ← hg4] at h
    exact h
  obtain ⟨-, gl, b5⟩ := alloc2 w4 (.cells #[.slice A4 N4 c4] 22) (.cells #[.slice (some ⟨g4, 0, none⟩) 1 1] 24)
  obtain ⟨Sl, hSl⟩ : ∃ Sl, Sl = w4.heap.size + 1 := ⟨_, rfl⟩
  have l5 := l4.below (below_alloc (Below.refl _ _) (.cells #[.slice (some ⟨g4, 0, none⟩) 1 1] 24))
  have sl0 : S < Sl := by rw [hSl]; omega
  have spl : Sp < Sl := by have := lt_of_block GP.out; rw [hSl]; omega
  rw [← hSl] at gl ⊢
  rw [← hg4]
  replace G0 := hid (below_heap b5 G0.out)
  replace GP := hid (below_heap b5 GP.out)
  replace TT := hid (TT.out.below b5)
  replace LX := hid (LX.out.below b5)
  replace BB := hid (below_then BB.out b5)
  clear b5 hSl sg4 l4 hg4
  generalize (w4.alloc (.cells #[.slice A4 N4 c4] 22)).alloc (.cells #[.slice (some ⟨g4, 0, none⟩) 1 1] 24) = w5 at *
  have GL := hid gl
  have L5 := hid l5
  obtain ⟨v0, v1, v2, v3, v4, v5, -, -, -, -, -, -⟩ := six G0.out
  clear gl l5
  go_wp2_with fail
  refine (back_any (w := w5)).mono ?_
  rintro e w6 ⟨rfl, rfl⟩
  have gb := heap_alloc_new w5 (.cells #[.slice A n c] 41)
  have b6 := below_alloc (Below.refl _ w5) (.cells #[.slice A n c] 41)
  obtain ⟨Bs, hBs⟩ : ∃ Bs, Bs = w5.heap.size := ⟨_, rfl⟩
  have sbl : Sl < Bs := by rw [hBs]; exact lt_of_block GL.out
  rw [← hBs] at gb ⊢
  replace G0 := hid (below_heap b6 G0.out)
  replace GP := hid (below_heap b6 GP.out)
  replace GL := hid (below_heap b6 GL.out)
  replace L5 := hid (L5.out.below b6)
  replace TT := hid (TT.out.below b6)
  have LXo := LX.out
  replace LX := hid (LX.out.below b6)
  replace BB := hid (below_then BB.out b6)
  clear b6 hBs v0 v1 v2 v3 v4 v5
  generalize w5.alloc (.cells #[.slice A n c] 41) = w6 at *
  have GB := hid gb
  clear gb
  go_wp2
  have hside := hid (show ∀ s ∈ px.side, s.size = 32 from FX.out.1)
  have hn := hid (show px.side.length = n ∧ n ≤ 256 by have := FX.out.2.1; exact ⟨LX.out.1.1, by rw [← LX.out.1.1]; exact this⟩)
  have sw6 : S < w6.heap.size := lt_of_block G0.out
  have sb6 : Bs < w6.heap.size := lt_of_block GB.out
  refine wpIn_wide.1 (wpIn_rangeFunc_ownF (F := Fence.wide) (n := 10) rfl (by decide) (gf := 66) (lb := #[.pointer (some ⟨Bs, 0, none⟩)]) rfl trivial (enters_of Tryz.func66 (by kernel_rfl) rfl)
    (encs := encR) (Kp := KpB S Bs) (S := fun ys => ys.map Subtype.val = backS px.side n) (Sp := fun pre => pre.length ≤ n) (N := n) (w0 := w6)
    (fun l J Jx W hW _ _ hY h0 => back1_in 9 (by decide) l Bs S c n A px.side hn.out.1 (by have := hn.out.2; omega) (fun s hs => by rw [hside.out s hs]; omega) J Jx hY W ⟨_, below_heap hW GB.out⟩ (LX.out.1.2.2.2.1.below hW) HLOW.out h0)
    KpB.trans (fun W l o o' hl hk _ _ => ⟨(Below.refl S W).grown (grownBy_putObj' W l o') (by have := (Array.getElem?_eq_some_iff.1 hk).1; omega) (fun k e => by cases e; omega), fun ob hob => by rw [World.putObj_heap_other (by omega)]; exact hob⟩) (Below.refl _ _) (fun _ => rfl)
    (StI w S Sp Sl Bs #[.slice A n c, .int .u8 kd, .string ky, .slice B m d, .string s1, .string s2] #[.slice A n c] K (pathK key) D) (fun _ _ _ => False)
    (StI.own w S Sp Sl Bs _ _ K (pathK key) D _ (by rw [HS.out]; exact Nat.le_refl _) (by omega)) (fun _ _ _ _ _ hs _ _ => hs)
    ?start ?a1 ?assign ?body ?done ?stop)
  case stop => rintro D c pre W _ _ h _; exact h.elim
  case start =>
    refine ⟨⟨⟨some ⟨g4, 0, none⟩, 1, [(A4, c4, D)], 0, GL.out, L5.out, hid ⟨rfl, rfl, rfl, fun t ht => ?_⟩⟩, GP.out, G0.out, GB.out⟩, by have := BB.out; rw [← HS.out] at this; exact this⟩
    have e : t = D := by simpa [txs] using ht
    have := DL.out
    rw [e, ← R4.out.2]
    omega
  case assign =>
    intro l x W K hK
    dsimp only [encR]
    gi_wp2
    exact hK
  case body =>
    rintro l pre ⟨⟨i, sd⟩, hi, hsd⟩ W ⟨⟨⟨R, c', ps, M, hl, hL, hps⟩, hp, hx, hbs⟩, hB⟩ hlen
    simp only at hi hsd
    have hd : 1 ≤ 10 - 1 - 1 := by decide
    have hmx : Tryz.prog.follows .mixedOrders = true := by kernel_rfl
    have TW := T0.out.below (show Below w.heap.size w W by rw [← HS.out]; exact hB)
    obtain ⟨h1, h2, h3, h4⟩ := hps.out
    obtain ⟨top, rst, hup⟩ := upP_top (pathK key) D (pre.map Subtype.val)
    rw [hup] at h3
    obtain ⟨g, rfl⟩ := hL.place (by omega)
    have cM := hL.cell M (by omega)
    have eM := hL.elem M (by omega)
    have tM : (ps[M]'(by omega)).2.2 = top := by
      have := last_text h3 (by omega)
      simp only [h1, Nat.add_sub_cancel] at this
      exact this
    have tl : top.length ≤ 2000000 := h4 top (by rw [h3]; simp)
    obtain ⟨a1, m1, c1, hv1, hm1⟩ : ∃ a m c, partV (ps[M]'(by omega)) = .slice a m c ∧ (ps[M]'(by omega)).2.2.length = m := ⟨_, _, _, rfl, rfl⟩
    have eM' : BSA W (ps[M]'(by omega)).1 (ps[M]'(by omega)).2.1 top := by rw [← tM]; exact eM
    have ev : (ps[M]'(by omega)).1 = a1 ∧ (ps[M]'(by omega)).2.1 = c1 := by
      have := Value.slice.inj hv1
      exact ⟨this.1, this.2.2⟩
    rw [ev.1, ev.2] at eM'
    rw [tM] at hm1
    rw [hv1] at cM
    have HS6 := hid (sum_dig (w := W) hm1 TW eM' (by omega))
    have cl := cell_at hl (i := 0) (v := .slice (some ⟨g, 0, none⟩) (M + 1) c') rfl
    have i1 : (M : Int) < (M : Int) + 1 := by omega
    have hM63 : M ≤ 1000 := by have := hn.out.2; omega
    have HUP := hid (And.intro hup (And.intro h1 (And.intro h2 (And.intro h3 h4))))
    have HW := hid (And.intro hl (And.intro hL (And.intro hp (And.intro hx (And.intro hbs hB)))))
    clear h1 h2 h3 h4 hup eM tM eM' ev hv1 hps hl hL hp hx hbs hB TW hlen
    gi_wp2_with fail
    refine ⟨trivial, ?_⟩
    refine (CallsIn.inRound l (callsIn_wide.2 HS6.out)).mono ?_
    rintro e w7 ⟨rfl, b7⟩
    obtain ⟨hl, hL, hp, hx, hbs, hB⟩ := HW.out
    have sW : S ≤ W.heap.size := by have := lt_of_block hx; omega
    have HW7 := hid (And.intro (below_heap b7 hl) (And.intro (hL.below b7) (And.intro (below_heap b7 hp) (And.intro (below_heap b7 hx) (And.intro (below_heap b7 hbs) (And.intro (hB.trans (b7.mono sW)) b7))))))
    have HK7 := hid (And.intro (show KeepsOthers W w7 from ⟨b7.size, fun k o hk _ => (b7.block k (Array.getElem?_eq_some_iff.1 hk).1).trans hk⟩) (show KpB S Bs W w7 from ⟨b7.mono sW, fun o ho => (b7.block Bs (Array.getElem?_eq_some_iff.1 ho).1).trans ho⟩))
    have cp := cell_at HW7.out.2.2.1 (i := 0) (v := .string K) rfl
    have cl7 := cell_at HW7.out.1 (i := 0) (v := .slice (some ⟨g, 0, none⟩) (M + 1) c') rfl
    have zl7 := free_at HW7.out.1 0
    obtain ⟨dt, hdt⟩ : ∃ dt, dt = dig top := ⟨_, rfl⟩
    rw [← hdt]
    have HDT := hid hdt
    obtain ⟨bi, hbi⟩ : ∃ bi, bi = bitOf K.data.toList (i : Int) := ⟨_, rfl⟩
    have HBI := hid hbi
    have HB7 := hid (bit_any (w := w7) (s := K) (i := (i : Int)) (by rw [HK.out, dig_list, sum256_length]; decide) (by omega))
    rw [← hbi] at HB7
    clear hl hL hp hx hbs hB HS6 cM cl i1 hm1 b7 hdt HW hbi
    have STEP : ∀ (w8 : World) (A8 : Option Addr) (c8 N8 : Nat) (T : List UInt8), T = stepU (pathK key) i sd top → N8 = T.length → Row w8 w7.drew.heap.size A8 c8 T → Below w7.drew.heap.size w7.drew w8 →
        ∃ g' c'' w9, (Builtin.append_ #[24, 24] 24 #[.slice (some ⟨g, 0, none⟩) (M + 1) c', .slice (some ⟨w8.heap.size, 0, none⟩) 1 1]).run Tryz.prog (w8.alloc (.cells #[.slice A8 N8 c8] 22)) = .ok (.slice (some ⟨g', 0, none⟩) (M + 1 + 1) c'') w9 ∧
          w8.cell? ⟨Sl, 0, none⟩ = some (.slice (some ⟨g, 0, none⟩) (M + 1) c') ∧ w9.frozen? ⟨Sl, 0, none⟩ = false ∧ w9.cell? ⟨Sl, 0, none⟩ = some (.slice (some ⟨g, 0, none⟩) (M + 1) c') ∧
          Hid (KeepsOthers W (w9.setCell ⟨Sl, 0, none⟩ (.slice (some ⟨g', 0, none⟩) (M + 1 + 1) c'')) ∧ KpB S Bs W (w9.setCell ⟨Sl, 0, none⟩ (.slice (some ⟨g', 0, none⟩) (M + 1 + 1) c'')) ∧
            StI w S Sp Sl Bs #[.slice A n c, .int .u8 kd, .string ky, .slice B m d, .string s1, .string s2] #[.slice A n c] K (pathK key) D (pre ++ [⟨(i, sd), hi, hsd⟩]) (w9.setCell ⟨Sl, 0, none⟩ (.slice (some ⟨g', 0, none⟩) (M + 1 + 1) c''))) := by
      intro w8 A8 c8 N8 T hT hN r8 b8
      obtain ⟨hl, hL, hp, hx, hbs, hB, b7⟩ := HW7.out
      obtain ⟨u0, u1, u2, u3, u4⟩ := HUP.out
      have s8 : S ≤ w8.heap.size := Nat.le_trans sW (Nat.le_trans b7.size b8.size)
      have kl := below_heap b8 (show w7.drew.heap[Sl]? = _ from hl)
      have kp := below_heap b8 (show w7.drew.heap[Sp]? = _ from hp)
      have kx := below_heap b8 (show w7.drew.heap[S]? = _ from hx)
      have kb := below_heap b8 (show w7.drew.heap[Bs]? = _ from hbs)
      have L7 : LB w7.drew S (some ⟨g, 0, none⟩) c' ps := hL
      have al := below_alloc (Below.refl _ w8) (.cells #[.slice A8 N8 c8] 22)
      have L9 := (L7.below b8).below al
      have cnew := cell_at (heap_alloc_new w8 (.cells #[.slice A8 N8 c8] 22)) (i := 0) (v := .slice A8 N8 c8) rfl
      have eq : partV (A8, c8, T) = .slice A8 N8 c8 := by rw [hN]; rfl
      obtain ⟨g', c'', w9, hrun, L10, B10, G10⟩ := L9.app_run (N := M + 1) u1 (Nat.le_trans s8 al.size) (g := w8.heap.size) (q := (A8, c8, T)) (by rw [eq]; exact cnew) (r8.bsa.below al) (far_new L7 r8 (Nat.le_refl _)) (by omega) 24
      have ml := L9.beside u1 G10 (below_heap al kl) (by decide)
      have mp := L9.beside u1 G10 (below_heap al kp) (by decide)
      have mx := L9.beside u1 G10 (below_heap al kx) (by decide)
      have mb := L9.beside u1 G10 (below_heap al kb) (by decide)
      have ks1 := keeps_one w9 Sl 0 (.slice (some ⟨g', 0, none⟩) (M + 1 + 1) c'')
      have bS : Below S W (w9.setCell ⟨Sl, 0, none⟩ (.slice (some ⟨g', 0, none⟩) (M + 1 + 1) c'')) := ((((HK7.out.2.1.drew).trans (b8.mono (Nat.le_trans sW b7.size))).trans (al.mono s8)).trans B10).setCell (p := ⟨Sl, 0, none⟩) (show S ≤ Sl by omega) _
      refine ⟨g', c'', w9, hrun, cell_at kl rfl, free_at ml 0, cell_at ml rfl, hid ⟨?_, ⟨bS, fun o ho => ?_⟩, ⟨⟨some ⟨g', 0, none⟩, c'', ps ++ [(A8, c8, T)], M + 1, by rw [heap_set ml]; rfl, L10.far ks1 ml (by decide), hid ⟨?_, ?_, ?_, ?_⟩⟩, ks1.heap mp (by omega), ks1.heap mx (by omega), ks1.heap mb (by omega)⟩, ?_⟩⟩
      · refine ((((HK7.out.1.trans (KeepsOthers.drew w7)).trans (keeps_others b8)).trans (KeepsOthers.alloc w8 _)).trans (KeepsOthers.of_grownBy G10 (fun j o e ho => ?_))).trans (KeepsOthers.setCell _ _ _)
        rw [← u1] at e
        obtain ⟨cur, h1⟩ := own_typ L9.1 e
        rw [h1] at ho
        cases ho
        rfl
      · have := HK7.out.2.2 o ho
        rw [hbs] at this
        rw [← this]
        exact ks1.heap mb (by omega)
      · rw [List.length_append, u1]; rfl
      · rw [List.length_append, u2]; rfl
      · rw [txs_append, u3, List.map_append, show (List.map Subtype.val [(⟨(i, sd), hi, hsd⟩ : Rnd)]) = [(i, sd)] from rfl, upP_snoc, u0, hT]
        simp [txs]
      · intro t ht
        rw [txs_append] at ht
        rcases List.mem_append.1 ht with ht | ht
        · exact u4 t ht
        · have e : t = T := by simpa [txs] using ht
          rw [e, hT]
          unfold stepU
          have q1 := sum256_length top
          have q2 : sd.data.toList.length = sd.size := by simp
          split <;> rw [nodeB_length] <;> omega
      · exact (hB.drew.trans ((b8.mono (Nat.le_trans sW b7.size)))).trans ((al.mono s8)) |>.trans B10 |>.setCell (p := ⟨Sl, 0, none⟩) (show S ≤ Sl by omega) _
    by_cases hb1 : bi = 1
    · have t1 : (bi == 1) = true := by rw [hb1]; rfl
      have HB1 := hid hb1
      clear hb1
      gi_wp2_with fail
      refine ⟨trivial, ?_⟩
      refine (CallsIn.inRound l (callsIn_wide.2 HB7.out)).mono ?_
      rintro e w8 ⟨rfl, rfl⟩
      obtain ⟨T, hT⟩ : ∃ T, T = stepU (pathK key) i sd top := ⟨_, rfl⟩
      obtain ⟨N8, hN8⟩ : ∃ N8, N8 = T.length := ⟨_, rfl⟩
      have HNB : Hid (∀ w : World, Calls Tryz.prog 36 #[.string sd, .string dt] w fun e w' => ∃ A' c', e = .returned (.slice A' N8 c') ∧ Row w' w.heap.size A' c' T ∧ Below w.heap.size w w') := hid (fun w => by
        have h := nodeBytes_any (w := w) (a := sd) (b := dt) hsd (by rw [HDT.out, dig_size]; decide)
        have e : nodeB sd.data.toList dt.data.toList = T := by
          rw [hT]
          unfold stepU
          rw [if_pos (by rw [← HB1.out, HBI.out, HK.out, dig_list]; rfl), HDT.out, dig_list]
        rw [e] at h
        rw [hN8]
        exact h)
      have STEP2 := hid (fun w8 A8 c8 => STEP w8 A8 c8 N8 T hT hN8)
      clear STEP cp hT hN8 HBI HB1 HDT HB7 HUP
      gi_wp2
      refine wpIn_region_any (by assumption) ?_
      change wpAnyIn _ _ _ _ _ _ _ _ _ (World.drew _)
      refine wpAnyIn_ready (rs := [0, 1, 2]) (by kernel_rfl) (by simp) ?_
      refine AllReadyIn.cons rfl (fun K hK => ?_) ?_
      · go_simp
        refine hK _ _ ?_
        clear hK K
        refine wpAnyIn_ready (rs := [1, 2]) (by kernel_rfl) (by simp) ?_
        refine AllReadyIn.cons rfl (fun K hK => ?_) ?_
        · go_simp
          refine hK _ _ ?_
          clear hK K
          refine wpAnyIn_ready (rs := [2]) (by kernel_rfl) (by simp) ?_
          refine AllReadyIn.cons rfl (fun K hK => ?_) ?_
          · go_simp
            refine hK _ _ ?_
            clear hK K
            refine wpAnyIn_ready (rs := [3]) (by kernel_rfl) (by simp) ?_
            refine AllReadyIn.cons rfl (fun K hK => ?_) ?_
            · go_simp
              refine ⟨trivial, ?_⟩
              refine (CallsIn.inRound l (callsIn_wide.2 (HNB.out _))).mono ?_
              rintro e w8 ⟨A8, c8, rfl, r8, b8⟩
              obtain ⟨g', c'', w9, hrun, y1, y2, y3, FIN⟩ := STEP2.out w8 A8 c8 r8 b8
              go_simp
              refine hK _ _ ?_
              clear hK K
              refine wpAnyIn_ready (rs := [4]) (by kernel_rfl) (by simp) ?_
              refine AllReadyIn.cons rfl (fun K hK => ?_) ?_
              · have y1a := below_cell (below_alloc (Below.refl _ w8) (.cells #[.slice A8 N8 c8] 22)) y1
                go_simp
                refine hK _ _ ?_
                clear hK K
                refine wpAnyIn_ready (rs := [5]) (by kernel_rfl) (by simp) ?_
                refine AllReadyIn.cons rfl (fun K hK => ?_) ?_
                · refine stepIn_app rfl (.tmp 38) (.tmp 42) _ rfl rfl rfl hrun ?_
                  refine hK _ _ ?_
                  clear hK K
                  refine wpAnyIn_ready (rs := [6]) (by kernel_rfl) (by simp) ?_
                  refine AllReadyIn.cons rfl (fun K hK => ?_) ?_
                  · go_simp
                    refine hK _ _ ?_
                    clear hK K
                    refine wpAnyIn_done (by kernel_rfl) ?_ _
                    gi_wp2
                    exact FIN.out
                  exact AllReadyIn.nil
                exact AllReadyIn.nil
              exact AllReadyIn.nil
            exact AllReadyIn.nil
          exact AllReadyIn.nil
        refine AllReadyIn.cons rfl (fun K hK => ?_) ?_
        · go_simp
          refine hK _ _ ?_
          clear hK K
          refine wpAnyIn_ready (rs := [1]) (by kernel_rfl) (by simp) ?_
          refine AllReadyIn.cons rfl (fun K hK => ?_) ?_
          · go_simp
            refine hK _ _ ?_
            clear hK K
            refine wpAnyIn_ready (rs := [3]) (by kernel_rfl) (by simp) ?_
            refine AllReadyIn.cons rfl (fun K hK => ?_) ?_
            · go_simp
              refine ⟨trivial, ?_⟩
              refine (CallsIn.inRound l (callsIn_wide.2 (HNB.out _))).mono ?_
              rintro e w8 ⟨A8, c8, rfl, r8, b8⟩
              obtain ⟨g', c'', w9, hrun, y1, y2, y3, FIN⟩ := STEP2.out w8 A8 c8 r8 b8
              go_simp
              refine hK _ _ ?_
              clear hK K
              refine wpAnyIn_ready (rs := [4]) (by kernel_rfl) (by simp) ?_
              refine AllReadyIn.cons rfl (fun K hK => ?_) ?_
              · have y1a := below_cell (below_alloc (Below.refl _ w8) (.cells #[.slice A8 N8 c8] 22)) y1
                go_simp
                refine hK _ _ ?_
                clear hK K
                refine wpAnyIn_ready (rs := [5]) (by kernel_rfl) (by simp) ?_
                refine AllReadyIn.cons rfl (fun K hK => ?_) ?_
                · refine stepIn_app rfl (.tmp 38) (.tmp 42) _ rfl rfl rfl hrun ?_
                  refine hK _ _ ?_
                  clear hK K
                  refine wpAnyIn_ready (rs := [6]) (by kernel_rfl) (by simp) ?_
                  refine AllReadyIn.cons rfl (fun K hK => ?_) ?_
                  · go_simp
                    refine hK _ _ ?_
                    clear hK K
                    refine wpAnyIn_done (by kernel_rfl) ?_ _
                    gi_wp2
                    exact FIN.out
                  exact AllReadyIn.nil
                exact AllReadyIn.nil
              exact AllReadyIn.nil
            exact AllReadyIn.nil
          exact AllReadyIn.nil
        exact AllReadyIn.nil
      refine AllReadyIn.cons rfl (fun K hK => ?_) ?_
      · go_simp
        refine hK _ _ ?_
        clear hK K
        refine wpAnyIn_ready (rs := [0, 2]) (by kernel_rfl) (by simp) ?_
        refine AllReadyIn.cons rfl (fun K hK => ?_) ?_
        · go_simp
          refine hK _ _ ?_
          clear hK K
          refine wpAnyIn_ready (rs := [2]) (by kernel_rfl) (by simp) ?_
          refine AllReadyIn.cons rfl (fun K hK => ?_) ?_
          · go_simp
            refine hK _ _ ?_
            clear hK K
            refine wpAnyIn_ready (rs := [3]) (by kernel_rfl) (by simp) ?_
            refine AllReadyIn.cons rfl (fun K hK => ?_) ?_
            · go_simp
              refine ⟨trivial, ?_⟩
              refine (CallsIn.inRound l (callsIn_wide.2 (HNB.out _))).mono ?_
              rintro e w8 ⟨A8, c8, rfl, r8, b8⟩
              obtain ⟨g', c'', w9, hrun, y1, y2, y3, FIN⟩ := STEP2.out w8 A8 c8 r8 b8
              go_simp
              refine hK _ _ ?_
              clear hK K
              refine wpAnyIn_ready (rs := [4]) (by kernel_rfl) (by simp) ?_
              refine AllReadyIn.cons rfl (fun K hK => ?_) ?_
              · have y1a := below_cell (below_alloc (Below.refl _ w8) (.cells #[.slice A8 N8 c8] 22)) y1
                go_simp
                refine hK _ _ ?_
                clear hK K
                refine wpAnyIn_ready (rs := [5]) (by kernel_rfl) (by simp) ?_
                refine AllReadyIn.cons rfl (fun K hK => ?_) ?_
                · refine stepIn_app rfl (.tmp 38) (.tmp 42) _ rfl rfl rfl hrun ?_
                  refine hK _ _ ?_
                  clear hK K
                  refine wpAnyIn_ready (rs := [6]) (by kernel_rfl) (by simp) ?_
                  refine AllReadyIn.cons rfl (fun K hK => ?_) ?_
                  · go_simp
                    refine hK _ _ ?_
                    clear hK K
                    refine wpAnyIn_done (by kernel_rfl) ?_ _
                    gi_wp2
                    exact FIN.out
                  exact AllReadyIn.nil
                exact AllReadyIn.nil
              exact AllReadyIn.nil
            exact AllReadyIn.nil
          exact AllReadyIn.nil
        refine AllReadyIn.cons rfl (fun K hK => ?_) ?_
        · go_simp
          refine hK _ _ ?_
          clear hK K
          refine wpAnyIn_ready (rs := [0, 3]) (by kernel_rfl) (by simp) ?_
          refine AllReadyIn.cons rfl (fun K hK => ?_) ?_
          · go_simp
            refine hK _ _ ?_
            clear hK K
            refine wpAnyIn_ready (rs := [3]) (by kernel_rfl) (by simp) ?_
            refine AllReadyIn.cons rfl (fun K hK => ?_) ?_
            · go_simp
              refine ⟨trivial, ?_⟩
              refine (CallsIn.inRound l (callsIn_wide.2 (HNB.out _))).mono ?_
              rintro e w8 ⟨A8, c8, rfl, r8, b8⟩
              obtain ⟨g', c'', w9, hrun, y1, y2, y3, FIN⟩ := STEP2.out w8 A8 c8 r8 b8
              go_simp
              refine hK _ _ ?_
              clear hK K
              refine wpAnyIn_ready (rs := [4]) (by kernel_rfl) (by simp) ?_
              refine AllReadyIn.cons rfl (fun K hK => ?_) ?_
              · have y1a := below_cell (below_alloc (Below.refl _ w8) (.cells #[.slice A8 N8 c8] 22)) y1
                go_simp
                refine hK _ _ ?_
                clear hK K
                refine wpAnyIn_ready (rs := [5]) (by kernel_rfl) (by simp) ?_
                refine AllReadyIn.cons rfl (fun K hK => ?_) ?_
                · refine stepIn_app rfl (.tmp 38) (.tmp 42) _ rfl rfl rfl hrun ?_
                  refine hK _ _ ?_
                  clear hK K
                  refine wpAnyIn_ready (rs := [6]) (by kernel_rfl) (by simp) ?_
                  refine AllReadyIn.cons rfl (fun K hK => ?_) ?_
                  · go_simp
                    refine hK _ _ ?_
                    clear hK K
                    refine wpAnyIn_done (by kernel_rfl) ?_ _
                    gi_wp2
                    exact FIN.out
                  exact AllReadyIn.nil
                exact AllReadyIn.nil
              exact AllReadyIn.nil
            exact AllReadyIn.nil
          refine AllReadyIn.cons rfl (fun K hK => ?_) ?_
          · go_simp
            refine ⟨trivial, ?_⟩
            refine (CallsIn.inRound l (callsIn_wide.2 (HNB.out _))).mono ?_
            rintro e w8 ⟨A8, c8, rfl, r8, b8⟩
            obtain ⟨g', c'', w9, hrun, y1, y2, y3, FIN⟩ := STEP2.out w8 A8 c8 r8 b8
            go_simp
            refine hK _ _ ?_
            clear hK K
            refine wpAnyIn_ready (rs := [0, 4]) (by kernel_rfl) (by simp) ?_
            refine AllReadyIn.cons rfl (fun K hK => ?_) ?_
            · go_simp
              refine hK _ _ ?_
              clear hK K
              refine wpAnyIn_ready (rs := [4]) (by kernel_rfl) (by simp) ?_
              refine AllReadyIn.cons rfl (fun K hK => ?_) ?_
              · have y1a := below_cell (below_alloc (Below.refl _ w8) (.cells #[.slice A8 N8 c8] 22)) y1
                go_simp
                refine hK _ _ ?_
                clear hK K
                refine wpAnyIn_ready (rs := [5]) (by kernel_rfl) (by simp) ?_
                refine AllReadyIn.cons rfl (fun K hK => ?_) ?_
                · refine stepIn_app rfl (.tmp 38) (.tmp 42) _ rfl rfl rfl hrun ?_
                  refine hK _ _ ?_
                  clear hK K
                  refine wpAnyIn_ready (rs := [6]) (by kernel_rfl) (by simp) ?_
                  refine AllReadyIn.cons rfl (fun K hK => ?_) ?_
                  · go_simp
                    refine hK _ _ ?_
                    clear hK K
                    refine wpAnyIn_done (by kernel_rfl) ?_ _
                    gi_wp2
                    exact FIN.out
                  exact AllReadyIn.nil
                exact AllReadyIn.nil
              exact AllReadyIn.nil
            refine AllReadyIn.cons rfl (fun K hK => ?_) ?_
            · have y1a := below_cell (below_alloc (Below.refl _ w8) (.cells #[.slice A8 N8 c8] 22)) y1
              go_simp
              refine hK _ _ ?_
              clear hK K
              refine wpAnyIn_ready (rs := [0]) (by kernel_rfl) (by simp) ?_
              refine AllReadyIn.cons rfl (fun K hK => ?_) ?_
              · go_simp
                refine hK _ _ ?_
                clear hK K
                refine wpAnyIn_ready (rs := [5]) (by kernel_rfl) (by simp) ?_
                refine AllReadyIn.cons rfl (fun K hK => ?_) ?_
                · refine stepIn_app rfl (.tmp 38) (.tmp 42) _ rfl rfl rfl hrun ?_
                  refine hK _ _ ?_
                  clear hK K
                  refine wpAnyIn_ready (rs := [6]) (by kernel_rfl) (by simp) ?_
                  refine AllReadyIn.cons rfl (fun K hK => ?_) ?_
                  · go_simp
                    refine hK _ _ ?_
                    clear hK K
                    refine wpAnyIn_done (by kernel_rfl) ?_ _
                    gi_wp2
                    exact FIN.out
                  exact AllReadyIn.nil
                exact AllReadyIn.nil
              exact AllReadyIn.nil
            exact AllReadyIn.nil
          exact AllReadyIn.nil
        exact AllReadyIn.nil
      refine AllReadyIn.cons rfl (fun K hK => ?_) ?_
      · go_simp
        refine hK _ _ ?_
        clear hK K
        refine wpAnyIn_ready (rs := [0, 1]) (by kernel_rfl) (by simp) ?_
        refine AllReadyIn.cons rfl (fun K hK => ?_) ?_
        · go_simp
          refine hK _ _ ?_
          clear hK K
          refine wpAnyIn_ready (rs := [1]) (by kernel_rfl) (by simp) ?_
          refine AllReadyIn.cons rfl (fun K hK => ?_) ?_
          · go_simp
            refine hK _ _ ?_
            clear hK K
            refine wpAnyIn_ready (rs := [3]) (by kernel_rfl) (by simp) ?_
            refine AllReadyIn.cons rfl (fun K hK => ?_) ?_
            · go_simp
              refine ⟨trivial, ?_⟩
              refine (CallsIn.inRound l (callsIn_wide.2 (HNB.out _))).mono ?_
              rintro e w8 ⟨A8, c8, rfl, r8, b8⟩
              obtain ⟨g', c'', w9, hrun, y1, y2, y3, FIN⟩ := STEP2.out w8 A8 c8 r8 b8
              go_simp
              refine hK _ _ ?_
              clear hK K
              refine wpAnyIn_ready (rs := [4]) (by kernel_rfl) (by simp) ?_
              refine AllReadyIn.cons rfl (fun K hK => ?_) ?_
              · have y1a := below_cell (below_alloc (Below.refl _ w8) (.cells #[.slice A8 N8 c8] 22)) y1
                go_simp
                refine hK _ _ ?_
                clear hK K
                refine wpAnyIn_ready (rs := [5]) (by kernel_rfl) (by simp) ?_
                refine AllReadyIn.cons rfl (fun K hK => ?_) ?_
                · refine stepIn_app rfl (.tmp 38) (.tmp 42) _ rfl rfl rfl hrun ?_
                  refine hK _ _ ?_
                  clear hK K
                  refine wpAnyIn_ready (rs := [6]) (by kernel_rfl) (by simp) ?_
                  refine AllReadyIn.cons rfl (fun K hK => ?_) ?_
                  · go_simp
                    refine hK _ _ ?_
                    clear hK K
                    refine wpAnyIn_done (by kernel_rfl) ?_ _
                    gi_wp2
                    exact FIN.out
                  exact AllReadyIn.nil
                exact AllReadyIn.nil
              exact AllReadyIn.nil
            exact AllReadyIn.nil
          exact AllReadyIn.nil
        refine AllReadyIn.cons rfl (fun K hK => ?_) ?_
        · go_simp
          refine hK _ _ ?_
          clear hK K
          refine wpAnyIn_ready (rs := [0, 3]) (by kernel_rfl) (by simp) ?_
          refine AllReadyIn.cons rfl (fun K hK => ?_) ?_
          · go_simp
            refine hK _ _ ?_
            clear hK K
            refine wpAnyIn_ready (rs := [3]) (by kernel_rfl) (by simp) ?_
            refine AllReadyIn.cons rfl (fun K hK => ?_) ?_
            · go_simp
              refine ⟨trivial, ?_⟩
              refine (CallsIn.inRound l (callsIn_wide.2 (HNB.out _))).mono ?_
              rintro e w8 ⟨A8, c8, rfl, r8, b8⟩
              obtain ⟨g', c'', w9, hrun, y1, y2, y3, FIN⟩ := STEP2.out w8 A8 c8 r8 b8
              go_simp
              refine hK _ _ ?_
              clear hK K
              refine wpAnyIn_ready (rs := [4]) (by kernel_rfl) (by simp) ?_
              refine AllReadyIn.cons rfl (fun K hK => ?_) ?_
              · have y1a := below_cell (below_alloc (Below.refl _ w8) (.cells #[.slice A8 N8 c8] 22)) y1
                go_simp
                refine hK _ _ ?_
                clear hK K
                refine wpAnyIn_ready (rs := [5]) (by kernel_rfl) (by simp) ?_
                refine AllReadyIn.cons rfl (fun K hK => ?_) ?_
                · refine stepIn_app rfl (.tmp 38) (.tmp 42) _ rfl rfl rfl hrun ?_
                  refine hK _ _ ?_
                  clear hK K
                  refine wpAnyIn_ready (rs := [6]) (by kernel_rfl) (by simp) ?_
                  refine AllReadyIn.cons rfl (fun K hK => ?_) ?_
                  · go_simp
                    refine hK _ _ ?_
                    clear hK K
                    refine wpAnyIn_done (by kernel_rfl) ?_ _
                    gi_wp2
                    exact FIN.out
                  exact AllReadyIn.nil
                exact AllReadyIn.nil
              exact AllReadyIn.nil
            exact AllReadyIn.nil
          refine AllReadyIn.cons rfl (fun K hK => ?_) ?_
          · go_simp
            refine ⟨trivial, ?_⟩
            refine (CallsIn.inRound l (callsIn_wide.2 (HNB.out _))).mono ?_
            rintro e w8 ⟨A8, c8, rfl, r8, b8⟩
            obtain ⟨g', c'', w9, hrun, y1, y2, y3, FIN⟩ := STEP2.out w8 A8 c8 r8 b8
            go_simp
            refine hK _ _ ?_
            clear hK K
            refine wpAnyIn_ready (rs := [0, 4]) (by kernel_rfl) (by simp) ?_
            refine AllReadyIn.cons rfl (fun K hK => ?_) ?_
            · go_simp
              refine hK _ _ ?_
              clear hK K
              refine wpAnyIn_ready (rs := [4]) (by kernel_rfl) (by simp) ?_
              refine AllReadyIn.cons rfl (fun K hK => ?_) ?_
              · have y1a := below_cell (below_alloc (Below.refl _ w8) (.cells #[.slice A8 N8 c8] 22)) y1
                go_simp
                refine hK _ _ ?_
                clear hK K
                refine wpAnyIn_ready (rs := [5]) (by kernel_rfl) (by simp) ?_
                refine AllReadyIn.cons rfl (fun K hK => ?_) ?_
                · refine stepIn_app rfl (.tmp 38) (.tmp 42) _ rfl rfl rfl hrun ?_
                  refine hK _ _ ?_
                  clear hK K
                  refine wpAnyIn_ready (rs := [6]) (by kernel_rfl) (by simp) ?_
                  refine AllReadyIn.cons rfl (fun K hK => ?_) ?_
                  · go_simp
                    refine hK _ _ ?_
                    clear hK K
                    refine wpAnyIn_done (by kernel_rfl) ?_ _
                    gi_wp2
                    exact FIN.out
                  exact AllReadyIn.nil
                exact AllReadyIn.nil
              exact AllReadyIn.nil
            refine AllReadyIn.cons rfl (fun K hK => ?_) ?_
            · have y1a := below_cell (below_alloc (Below.refl _ w8) (.cells #[.slice A8 N8 c8] 22)) y1
              go_simp
              refine hK _ _ ?_
              clear hK K
              refine wpAnyIn_ready (rs := [0]) (by kernel_rfl) (by simp) ?_
              refine AllReadyIn.cons rfl (fun K hK => ?_) ?_
              · go_simp
                refine hK _ _ ?_
                clear hK K
                refine wpAnyIn_ready (rs := [5]) (by kernel_rfl) (by simp) ?_
                refine AllReadyIn.cons rfl (fun K hK => ?_) ?_
                · refine stepIn_app rfl (.tmp 38) (.tmp 42) _ rfl rfl rfl hrun ?_
                  refine hK _ _ ?_
                  clear hK K
                  refine wpAnyIn_ready (rs := [6]) (by kernel_rfl) (by simp) ?_
                  refine AllReadyIn.cons rfl (fun K hK => ?_) ?_
                  · go_simp
                    refine hK _ _ ?_
                    clear hK K
                    refine wpAnyIn_done (by kernel_rfl) ?_ _
                    gi_wp2
                    exact FIN.out
                  exact AllReadyIn.nil
                exact AllReadyIn.nil
              exact AllReadyIn.nil
            exact AllReadyIn.nil
          exact AllReadyIn.nil
        exact AllReadyIn.nil
      exact AllReadyIn.nil
    · have t1 : (bi == 1) = false := by rw [beq_eq_false_iff_ne]; exact hb1
      have HB1 := hid hb1
      clear hb1
      gi_wp2_with fail
      refine ⟨trivial, ?_⟩
      refine (CallsIn.inRound l (callsIn_wide.2 HB7.out)).mono ?_
      rintro e w8 ⟨rfl, rfl⟩
      obtain ⟨T, hT⟩ : ∃ T, T = stepU (pathK key) i sd top := ⟨_, rfl⟩
      obtain ⟨N8, hN8⟩ : ∃ N8, N8 = T.length := ⟨_, rfl⟩
      have HNB : Hid (∀ w : World, Calls Tryz.prog 36 #[.string dt, .string sd] w fun e w' => ∃ A' c', e = .returned (.slice A' N8 c') ∧ Row w' w.heap.size A' c' T ∧ Below w.heap.size w w') := hid (fun w => by
        have h := nodeBytes_any (w := w) (a := dt) (b := sd) (by rw [HDT.out, dig_size]; decide) hsd
        have e : nodeB dt.data.toList sd.data.toList = T := by
          rw [hT]
          unfold stepU
          rw [if_neg (fun h => HB1.out (by rw [HBI.out, HK.out, dig_list]; exact h)), HDT.out, dig_list]
        rw [e] at h
        rw [hN8]
        exact h)
      have STEP2 := hid (fun w8 A8 c8 => STEP w8 A8 c8 N8 T hT hN8)
      clear STEP cp hT hN8 HBI HB1 HDT HB7 HUP
      gi_wp2
      refine wpIn_region_any (by assumption) ?_
      change wpAnyIn _ _ _ _ _ _ _ _ _ (World.drew _)
      refine wpAnyIn_ready (rs := [0, 1, 2]) (by kernel_rfl) (by simp) ?_
      refine AllReadyIn.cons rfl (fun K hK => ?_) ?_
      · go_simp
        refine hK _ _ ?_
        clear hK K
        refine wpAnyIn_ready (rs := [1, 2]) (by kernel_rfl) (by simp) ?_
        refine AllReadyIn.cons rfl (fun K hK => ?_) ?_
        · go_simp
          refine hK _ _ ?_
          clear hK K
          refine wpAnyIn_ready (rs := [2]) (by kernel_rfl) (by simp) ?_
          refine AllReadyIn.cons rfl (fun K hK => ?_) ?_
          · go_simp
            refine hK _ _ ?_
            clear hK K
            refine wpAnyIn_ready (rs := [3]) (by kernel_rfl) (by simp) ?_
            refine AllReadyIn.cons rfl (fun K hK => ?_) ?_
            · go_simp
              refine ⟨trivial, ?_⟩
              refine (CallsIn.inRound l (callsIn_wide.2 (HNB.out _))).mono ?_
              rintro e w8 ⟨A8, c8, rfl, r8, b8⟩
              obtain ⟨g', c'', w9, hrun, y1, y2, y3, FIN⟩ := STEP2.out w8 A8 c8 r8 b8
              go_simp
              refine hK _ _ ?_
              clear hK K
              refine wpAnyIn_ready (rs := [4]) (by kernel_rfl) (by simp) ?_
              refine AllReadyIn.cons rfl (fun K hK => ?_) ?_
              · have y1a := below_cell (below_alloc (Below.refl _ w8) (.cells #[.slice A8 N8 c8] 22)) y1
                go_simp
                refine hK _ _ ?_
                clear hK K
                refine wpAnyIn_ready (rs := [5]) (by kernel_rfl) (by simp) ?_
                refine AllReadyIn.cons rfl (fun K hK => ?_) ?_
                · refine stepIn_app rfl (.tmp 38) (.tmp 42) _ rfl rfl rfl hrun ?_
                  refine hK _ _ ?_
                  clear hK K
                  refine wpAnyIn_ready (rs := [6]) (by kernel_rfl) (by simp) ?_
                  refine AllReadyIn.cons rfl (fun K hK => ?_) ?_
                  · go_simp
                    refine hK _ _ ?_
                    clear hK K
                    refine wpAnyIn_done (by kernel_rfl) ?_ _
                    gi_wp2
                    exact FIN.out
                  exact AllReadyIn.nil
                exact AllReadyIn.nil
              exact AllReadyIn.nil
            exact AllReadyIn.nil
          exact AllReadyIn.nil
        refine AllReadyIn.cons rfl (fun K hK => ?_) ?_
        · go_simp
          refine hK _ _ ?_
          clear hK K
          refine wpAnyIn_ready (rs := [1]) (by kernel_rfl) (by simp) ?_
          refine AllReadyIn.cons rfl (fun K hK => ?_) ?_
          · go_simp
            refine hK _ _ ?_
            clear hK K
            refine wpAnyIn_ready (rs := [3]) (by kernel_rfl) (by simp) ?_
            refine AllReadyIn.cons rfl (fun K hK => ?_) ?_
            · go_simp
              refine ⟨trivial, ?_⟩
              refine (CallsIn.inRound l (callsIn_wide.2 (HNB.out _))).mono ?_
              rintro e w8 ⟨A8, c8, rfl, r8, b8⟩
              obtain ⟨g', c'', w9, hrun, y1, y2, y3, FIN⟩ := STEP2.out w8 A8 c8 r8 b8
              go_simp
              refine hK _ _ ?_
              clear hK K
              refine wpAnyIn_ready (rs := [4]) (by kernel_rfl) (by simp) ?_
              refine AllReadyIn.cons rfl (fun K hK => ?_) ?_
              · have y1a := below_cell (below_alloc (Below.refl _ w8) (.cells #[.slice A8 N8 c8] 22)) y1
                go_simp
                refine hK _ _ ?_
                clear hK K
                refine wpAnyIn_ready (rs := [5]) (by kernel_rfl) (by simp) ?_
                refine AllReadyIn.cons rfl (fun K hK => ?_) ?_
                · refine stepIn_app rfl (.tmp 38) (.tmp 42) _ rfl rfl rfl hrun ?_
                  refine hK _ _ ?_
                  clear hK K
                  refine wpAnyIn_ready (rs := [6]) (by kernel_rfl) (by simp) ?_
                  refine AllReadyIn.cons rfl (fun K hK => ?_) ?_
                  · go_simp
                    refine hK _ _ ?_
                    clear hK K
                    refine wpAnyIn_done (by kernel_rfl) ?_ _
                    gi_wp2
                    exact FIN.out
                  exact AllReadyIn.nil
                exact AllReadyIn.nil
              exact AllReadyIn.nil
            exact AllReadyIn.nil
          exact AllReadyIn.nil
        exact AllReadyIn.nil
      refine AllReadyIn.cons rfl (fun K hK => ?_) ?_
      · go_simp
        refine hK _ _ ?_
        clear hK K
        refine wpAnyIn_ready (rs := [0, 2]) (by kernel_rfl) (by simp) ?_
        refine AllReadyIn.cons rfl (fun K hK => ?_) ?_
        · go_simp
          refine hK _ _ ?_
          clear hK K
          refine wpAnyIn_ready (rs := [2]) (by kernel_rfl) (by simp) ?_
          refine AllReadyIn.cons rfl (fun K hK => ?_) ?_
          · go_simp
            refine hK _ _ ?_
            clear hK K
            refine wpAnyIn_ready (rs := [3]) (by kernel_rfl) (by simp) ?_
            refine AllReadyIn.cons rfl (fun K hK => ?_) ?_
            · go_simp
              refine ⟨trivial, ?_⟩
              refine (CallsIn.inRound l (callsIn_wide.2 (HNB.out _))).mono ?_
              rintro e w8 ⟨A8, c8, rfl, r8, b8⟩
              obtain ⟨g', c'', w9, hrun, y1, y2, y3, FIN⟩ := STEP2.out w8 A8 c8 r8 b8
              go_simp
              refine hK _ _ ?_
              clear hK K
              refine wpAnyIn_ready (rs := [4]) (by kernel_rfl) (by simp) ?_
              refine AllReadyIn.cons rfl (fun K hK => ?_) ?_
              · have y1a := below_cell (below_alloc (Below.refl _ w8) (.cells #[.slice A8 N8 c8] 22)) y1
                go_simp
                refine hK _ _ ?_
                clear hK K
                refine wpAnyIn_ready (rs := [5]) (by kernel_rfl) (by simp) ?_
                refine AllReadyIn.cons rfl (fun K hK => ?_) ?_
                · refine stepIn_app rfl (.tmp 38) (.tmp 42) _ rfl rfl rfl hrun ?_
                  refine hK _ _ ?_
                  clear hK K
                  refine wpAnyIn_ready (rs := [6]) (by kernel_rfl) (by simp) ?_
                  refine AllReadyIn.cons rfl (fun K hK => ?_) ?_
                  · go_simp
                    refine hK _ _ ?_
                    clear hK K
                    refine wpAnyIn_done (by kernel_rfl) ?_ _
                    gi_wp2
                    exact FIN.out
                  exact AllReadyIn.nil
                exact AllReadyIn.nil
              exact AllReadyIn.nil
            exact AllReadyIn.nil
          exact AllReadyIn.nil
        refine AllReadyIn.cons rfl (fun K hK => ?_) ?_
        · go_simp
          refine hK _ _ ?_
          clear hK K
          refine wpAnyIn_ready (rs := [0, 3]) (by kernel_rfl) (by simp) ?_
          refine AllReadyIn.cons rfl (fun K hK => ?_) ?_
          · go_simp
            refine hK _ _ ?_
            clear hK K
            refine wpAnyIn_ready (rs := [3]) (by kernel_rfl) (by simp) ?_
            refine AllReadyIn.cons rfl (fun K hK => ?_) ?_
            · go_simp
              refine ⟨trivial, ?_⟩
              refine (CallsIn.inRound l (callsIn_wide.2 (HNB.out _))).mono ?_
              rintro e w8 ⟨A8, c8, rfl, r8, b8⟩
              obtain ⟨g', c'', w9, hrun, y1, y2, y3, FIN⟩ := STEP2.out w8 A8 c8 r8 b8
              go_simp
              refine hK _ _ ?_
              clear hK K
              refine wpAnyIn_ready (rs := [4]) (by kernel_rfl) (by simp) ?_
              refine AllReadyIn.cons rfl (fun K hK => ?_) ?_
              · have y1a := below_cell (below_alloc (Below.refl _ w8) (.cells #[.slice A8 N8 c8] 22)) y1
                go_simp
                refine hK _ _ ?_
                clear hK K
                refine wpAnyIn_ready (rs := [5]) (by kernel_rfl) (by simp) ?_
                refine AllReadyIn.cons rfl (fun K hK => ?_) ?_
                · refine stepIn_app rfl (.tmp 38) (.tmp 42) _ rfl rfl rfl hrun ?_
                  refine hK _ _ ?_
                  clear hK K
                  refine wpAnyIn_ready (rs := [6]) (by kernel_rfl) (by simp) ?_
                  refine AllReadyIn.cons rfl (fun K hK => ?_) ?_
                  · go_simp
                    refine hK _ _ ?_
                    clear hK K
                    refine wpAnyIn_done (by kernel_rfl) ?_ _
                    gi_wp2
                    exact FIN.out
                  exact AllReadyIn.nil
                exact AllReadyIn.nil
              exact AllReadyIn.nil
            exact AllReadyIn.nil
          refine AllReadyIn.cons rfl (fun K hK => ?_) ?_
          · go_simp
            refine ⟨trivial, ?_⟩
            refine (CallsIn.inRound l (callsIn_wide.2 (HNB.out _))).mono ?_
            rintro e w8 ⟨A8, c8, rfl, r8, b8⟩
            obtain ⟨g', c'', w9, hrun, y1, y2, y3, FIN⟩ := STEP2.out w8 A8 c8 r8 b8
            go_simp
            refine hK _ _ ?_
            clear hK K
            refine wpAnyIn_ready (rs := [0, 4]) (by kernel_rfl) (by simp) ?_
            refine AllReadyIn.cons rfl (fun K hK => ?_) ?_
            · go_simp
              refine hK _ _ ?_
              clear hK K
              refine wpAnyIn_ready (rs := [4]) (by kernel_rfl) (by simp) ?_
              refine AllReadyIn.cons rfl (fun K hK => ?_) ?_
              · have y1a := below_cell (below_alloc (Below.refl _ w8) (.cells #[.slice A8 N8 c8] 22)) y1
                go_simp
                refine hK _ _ ?_
                clear hK K
                refine wpAnyIn_ready (rs := [5]) (by kernel_rfl) (by simp) ?_
                refine AllReadyIn.cons rfl (fun K hK => ?_) ?_
                · refine stepIn_app rfl (.tmp 38) (.tmp 42) _ rfl rfl rfl hrun ?_
                  refine hK _ _ ?_
                  clear hK K
                  refine wpAnyIn_ready (rs := [6]) (by kernel_rfl) (by simp) ?_
                  refine AllReadyIn.cons rfl (fun K hK => ?_) ?_
                  · go_simp
                    refine hK _ _ ?_
                    clear hK K
                    refine wpAnyIn_done (by kernel_rfl) ?_ _
                    gi_wp2
                    exact FIN.out
                  exact AllReadyIn.nil
                exact AllReadyIn.nil
              exact AllReadyIn.nil
            refine AllReadyIn.cons rfl (fun K hK => ?_) ?_
            · have y1a := below_cell (below_alloc (Below.refl _ w8) (.cells #[.slice A8 N8 c8] 22)) y1
              go_simp
              refine hK _ _ ?_
              clear hK K
              refine wpAnyIn_ready (rs := [0]) (by kernel_rfl) (by simp) ?_
              refine AllReadyIn.cons rfl (fun K hK => ?_) ?_
              · go_simp
                refine hK _ _ ?_
                clear hK K
                refine wpAnyIn_ready (rs := [5]) (by kernel_rfl) (by simp) ?_
                refine AllReadyIn.cons rfl (fun K hK => ?_) ?_
                · refine stepIn_app rfl (.tmp 38) (.tmp 42) _ rfl rfl rfl hrun ?_
                  refine hK _ _ ?_
                  clear hK K
                  refine wpAnyIn_ready (rs := [6]) (by kernel_rfl) (by simp) ?_
                  refine AllReadyIn.cons rfl (fun K hK => ?_) ?_
                  · go_simp
                    refine hK _ _ ?_
                    clear hK K
                    refine wpAnyIn_done (by kernel_rfl) ?_ _
                    gi_wp2
                    exact FIN.out
                  exact AllReadyIn.nil
                exact AllReadyIn.nil
              exact AllReadyIn.nil
            exact AllReadyIn.nil
          exact AllReadyIn.nil
        exact AllReadyIn.nil
      refine AllReadyIn.cons rfl (fun K hK => ?_) ?_
      · go_simp
        refine hK _ _ ?_
        clear hK K
        refine wpAnyIn_ready (rs := [0, 1]) (by kernel_rfl) (by simp) ?_
        refine AllReadyIn.cons rfl (fun K hK => ?_) ?_
        · go_simp
          refine hK _ _ ?_
          clear hK K
          refine wpAnyIn_ready (rs := [1]) (by kernel_rfl) (by simp) ?_
          refine AllReadyIn.cons rfl (fun K hK => ?_) ?_
          · go_simp
            refine hK _ _ ?_
            clear hK K
            refine wpAnyIn_ready (rs := [3]) (by kernel_rfl) (by simp) ?_
            refine AllReadyIn.cons rfl (fun K hK => ?_) ?_
            · go_simp
              refine ⟨trivial, ?_⟩
              refine (CallsIn.inRound l (callsIn_wide.2 (HNB.out _))).mono ?_
              rintro e w8 ⟨A8, c8, rfl, r8, b8⟩
              obtain ⟨g', c'', w9, hrun, y1, y2, y3, FIN⟩ := STEP2.out w8 A8 c8 r8 b8
              go_simp
              refine hK _ _ ?_
              clear hK K
              refine wpAnyIn_ready (rs := [4]) (by kernel_rfl) (by simp) ?_
              refine AllReadyIn.cons rfl (fun K hK => ?_) ?_
              · have y1a := below_cell (below_alloc (Below.refl _ w8) (.cells #[.slice A8 N8 c8] 22)) y1
                go_simp
                refine hK _ _ ?_
                clear hK K
                refine wpAnyIn_ready (rs := [5]) (by kernel_rfl) (by simp) ?_
                refine AllReadyIn.cons rfl (fun K hK => ?_) ?_
                · refine stepIn_app rfl (.tmp 38) (.tmp 42) _ rfl rfl rfl hrun ?_
                  refine hK _ _ ?_
                  clear hK K
                  refine wpAnyIn_ready (rs := [6]) (by kernel_rfl) (by simp) ?_
                  refine AllReadyIn.cons rfl (fun K hK => ?_) ?_
                  · go_simp
                    refine hK _ _ ?_
                    clear hK K
                    refine wpAnyIn_done (by kernel_rfl) ?_ _
                    gi_wp2
                    exact FIN.out
                  exact AllReadyIn.nil
                exact AllReadyIn.nil
              exact AllReadyIn.nil
            exact AllReadyIn.nil
          exact AllReadyIn.nil
        refine AllReadyIn.cons rfl (fun K hK => ?_) ?_
        · go_simp
          refine hK _ _ ?_
          clear hK K
          refine wpAnyIn_ready (rs := [0, 3]) (by kernel_rfl) (by simp) ?_
          refine AllReadyIn.cons rfl (fun K hK => ?_) ?_
          · go_simp
            refine hK _ _ ?_
            clear hK K
            refine wpAnyIn_ready (rs := [3]) (by kernel_rfl) (by simp) ?_
            refine AllReadyIn.cons rfl (fun K hK => ?_) ?_
            · go_simp
              refine ⟨trivial, ?_⟩
              refine (CallsIn.inRound l (callsIn_wide.2 (HNB.out _))).mono ?_
              rintro e w8 ⟨A8, c8, rfl, r8, b8⟩
              obtain ⟨g', c'', w9, hrun, y1, y2, y3, FIN⟩ := STEP2.out w8 A8 c8 r8 b8
              go_simp
              refine hK _ _ ?_
              clear hK K
              refine wpAnyIn_ready (rs := [4]) (by kernel_rfl) (by simp) ?_
              refine AllReadyIn.cons rfl (fun K hK => ?_) ?_
              · have y1a := below_cell (below_alloc (Below.refl _ w8) (.cells #[.slice A8 N8 c8] 22)) y1
                go_simp
                refine hK _ _ ?_
                clear hK K
                refine wpAnyIn_ready (rs := [5]) (by kernel_rfl) (by simp) ?_
                refine AllReadyIn.cons rfl (fun K hK => ?_) ?_
                · refine stepIn_app rfl (.tmp 38) (.tmp 42) _ rfl rfl rfl hrun ?_
                  refine hK _ _ ?_
                  clear hK K
                  refine wpAnyIn_ready (rs := [6]) (by kernel_rfl) (by simp) ?_
                  refine AllReadyIn.cons rfl (fun K hK => ?_) ?_
                  · go_simp
                    refine hK _ _ ?_
                    clear hK K
                    refine wpAnyIn_done (by kernel_rfl) ?_ _
                    gi_wp2
                    exact FIN.out
                  exact AllReadyIn.nil
                exact AllReadyIn.nil
              exact AllReadyIn.nil
            exact AllReadyIn.nil
          refine AllReadyIn.cons rfl (fun K hK => ?_) ?_
          · go_simp
            refine ⟨trivial, ?_⟩
            refine (CallsIn.inRound l (callsIn_wide.2 (HNB.out _))).mono ?_
            rintro e w8 ⟨A8, c8, rfl, r8, b8⟩
            obtain ⟨g', c'', w9, hrun, y1, y2, y3, FIN⟩ := STEP2.out w8 A8 c8 r8 b8
            go_simp
            refine hK _ _ ?_
            clear hK K
            refine wpAnyIn_ready (rs := [0, 4]) (by kernel_rfl) (by simp) ?_
            refine AllReadyIn.cons rfl (fun K hK => ?_) ?_
            · go_simp
              refine hK _ _ ?_
              clear hK K
              refine wpAnyIn_ready (rs := [4]) (by kernel_rfl) (by simp) ?_
              refine AllReadyIn.cons rfl (fun K hK => ?_) ?_
              · have y1a := below_cell (below_alloc (Below.refl _ w8) (.cells #[.slice A8 N8 c8] 22)) y1
                go_simp
                refine hK _ _ ?_
                clear hK K
                refine wpAnyIn_ready (rs := [5]) (by kernel_rfl) (by simp) ?_
                refine AllReadyIn.cons rfl (fun K hK => ?_) ?_
                · refine stepIn_app rfl (.tmp 38) (.tmp 42) _ rfl rfl rfl hrun ?_
                  refine hK _ _ ?_
                  clear hK K
                  refine wpAnyIn_ready (rs := [6]) (by kernel_rfl) (by simp) ?_
                  refine AllReadyIn.cons rfl (fun K hK => ?_) ?_
                  · go_simp
                    refine hK _ _ ?_
                    clear hK K
                    refine wpAnyIn_done (by kernel_rfl) ?_ _
                    gi_wp2
                    exact FIN.out
                  exact AllReadyIn.nil
                exact AllReadyIn.nil
              exact AllReadyIn.nil
            refine AllReadyIn.cons rfl (fun K hK => ?_) ?_
            · have y1a := below_cell (below_alloc (Below.refl _ w8) (.cells #[.slice A8 N8 c8] 22)) y1
              go_simp
              refine hK _ _ ?_
              clear hK K
              refine wpAnyIn_ready (rs := [0]) (by kernel_rfl) (by simp) ?_
              refine AllReadyIn.cons rfl (fun K hK => ?_) ?_
              · go_simp
                refine hK _ _ ?_
                clear hK K
                refine wpAnyIn_ready (rs := [5]) (by kernel_rfl) (by simp) ?_
                refine AllReadyIn.cons rfl (fun K hK => ?_) ?_
                · refine stepIn_app rfl (.tmp 38) (.tmp 42) _ rfl rfl rfl hrun ?_
                  refine hK _ _ ?_
                  clear hK K
                  refine wpAnyIn_ready (rs := [6]) (by kernel_rfl) (by simp) ?_
                  refine AllReadyIn.cons rfl (fun K hK => ?_) ?_
                  · go_simp
                    refine hK _ _ ?_
                    clear hK K
                    refine wpAnyIn_done (by kernel_rfl) ?_ _
                    gi_wp2
                    exact FIN.out
                  exact AllReadyIn.nil
                exact AllReadyIn.nil
              exact AllReadyIn.nil
            exact AllReadyIn.nil
          exact AllReadyIn.nil
        exact AllReadyIn.nil
      exact AllReadyIn.nil
  case done =>
    rintro Dd ys W hDd hys ⟨⟨⟨R, c', ps, M, hl, hL, hps⟩, hp, hx, hbs⟩, hB⟩ hKD
    obtain ⟨u1, u2, u3, u4⟩ := hps.out
    have hMn : M = n := by
      have := congrArg List.length hys
      rw [List.length_map, backS_length] at this
      omega
    rw [hys, ← hn.out.1, upP_back _ _ _ _ (Nat.le_refl _), Nat.sub_self, List.drop_zero] at u3
    obtain ⟨rst, hup⟩ := wayS_top (pathK key) D 0 px.side
    obtain ⟨top, htop⟩ : ∃ top, top = topS (pathK key) D 0 px.side := ⟨_, rfl⟩
    rw [← htop] at hup
    obtain ⟨WY, hWY⟩ : ∃ WY, WY = wayS (pathK key) D 0 px.side := ⟨_, rfl⟩
    rw [← hWY] at u3 hup
    have TW := T0.out.below (show Below w.heap.size w W by rw [← HS.out]; exact hB)
    obtain ⟨g, rfl⟩ := hL.place (by omega)
    have cM := hL.cell M (by omega)
    have eM := hL.elem M (by omega)
    have tM : (ps[M]'(by omega)).2.2 = top := by
      have := last_text (u3.trans (by rw [hup])) (by omega)
      simp only [u1, Nat.add_sub_cancel] at this
      exact this
    have tl : top.length ≤ 2000000 := u4 top (by rw [u3, hup]; simp)
    obtain ⟨a1, m1, c1, hv1, hm1⟩ : ∃ a m c, partV (ps[M]'(by omega)) = .slice a m c ∧ (ps[M]'(by omega)).2.2.length = m := ⟨_, _, _, rfl, rfl⟩
    have eM' : BSA W (ps[M]'(by omega)).1 (ps[M]'(by omega)).2.1 top := by rw [← tM]; exact eM
    have ev : (ps[M]'(by omega)).1 = a1 ∧ (ps[M]'(by omega)).2.1 = c1 := by
      have := Value.slice.inj hv1
      exact ⟨this.1, this.2.2⟩
    rw [ev.1, ev.2] at eM'
    rw [tM] at hm1
    rw [hv1] at cM
    have HS6 : Hid (Calls Tryz.prog 18 #[.slice a1 m1 c1] W.drew fun e w' => e = .returned (.string (dig top)) ∧ Below W.drew.heap.size W.drew w') := hid (sum_dig (w := W.drew) hm1 (show Table W.drew from TW) (show BSA W.drew a1 c1 top from eM') (by omega))
    obtain ⟨dt, hdt⟩ : ∃ dt, dt = dig top := ⟨_, rfl⟩
    rw [← hdt] at HS6
    have HDT := hid hdt
    have cl := cell_at hl (i := 0) (v := .slice (some ⟨g, 0, none⟩) (M + 1) c') rfl
    obtain ⟨v0, v1, v2, v3, v4, v5, -, -, -, -, -, -⟩ := six hx
    have i1 : (M : Int) < (M : Int) + 1 := by omega
    have hM63 : M ≤ 1000 := by have := hn.out.2; omega
    obtain ⟨T, hT⟩ : ∃ T, T = linkB s1.data.toList (sum256 top) s2.data.toList := ⟨_, rfl⟩
    obtain ⟨N8, hN8⟩ : ∃ N8, N8 = T.length := ⟨_, rfl⟩
    have HLB : Hid (∀ w : World, Calls Tryz.prog 37 #[.string s1, .string dt, .string s2] w fun e w' => ∃ A' c', e = .returned (.slice A' N8 c') ∧ Row w' w.heap.size A' c' T ∧ Below w.heap.size w w') := hid (fun w => by
      have h := linkBytes_any (w := w) (a := s1) (b := dt) (c := s2) hs1 (by rw [HDT.out, dig_size]; decide) hs2
      rw [HDT.out, dig_list, ← hT] at h
      rw [hN8, HDT.out]
      exact h)
    have sW : S ≤ W.heap.size := by have := lt_of_block hx; omega
    have HW := hid (And.intro (show W.drew.heap[Sl]? = _ from hl) (And.intro (show LB W.drew S (some ⟨g, 0, none⟩) c' ps from hL) (And.intro (show W.drew.heap[Dd]? = _ from hKD) (And.intro hB.drew (show S ≤ W.drew.heap.size from sW)))))
    have HU := hid (And.intro u1 (And.intro u3 (And.intro hWY (And.intro htop (And.intro hT hN8)))))
    have HDD := hid hDd
    have HMN := hid hMn
    have h47 := hid (show M + 1 + 1 ≤ 1000000000 by omega)
    have HX := hid (show W.drew.heap[S]? = _ from hx)
    have wM := wrap64_is (M : Int) (by omega)
    have i2 := eq_true i1
    have i0 : (0 : Int) ≤ (M : Int) := Int.natCast_nonneg M
    clear hMn hl hL hKD hB hbs hp hx eM eM' tM ev hv1 hm1 u1 u2 u3 u4 hps hys hup htop hWY TW hdt hT hN8 hDd tl
    go_wp2
    refine start_ (n := 16) (S := fun w' => w'.cell? ⟨Sl, 0, none⟩ = some (.slice (some ⟨g, 0, none⟩) (M + 1) c') ∧ w'.cell? ⟨S, 4, none⟩ = some (.string s1) ∧ w'.cell? ⟨S, 5, none⟩ = some (.string s2)) (ds := [15]) #[false, false, false, false, false, false, false, false, false, false, false, false, false, false, false, false] (by kernel_rfl) rfl rfl ⟨cl, v4, v5⟩ (fun hHeld => ?_)
    refine pure_ (i := 1) (N := some 45) (v := ?_) (a' := ?_) #[false, true, false, false, false, false, false, false, false, false, false, false, false, false, false, false] rfl rfl (by kernel_rfl) (fun _ _ _ h => h) (Or.inl ⟨by rfl, ?_⟩) ?_ ?_
    rotate_left
    · intro w'
      go_simp
      with_reducible rfl
    rotate_left
    · simp only [Act.put, List.setIfInBounds_toArray, List.set_cons_zero, List.set_cons_succ, i64_w, i32_w]
      rfl
    refine pure_ (i := 10) (N := some 54) (v := ?_) (a' := ?_) #[false, true, false, false, false, false, false, false, false, false, true, false, false, false, false, false] rfl rfl (by kernel_rfl) (fun _ _ _ h => h) (Or.inl ⟨by rfl, ?_⟩) ?_ ?_
    rotate_left
    · intro w'
      go_simp
      with_reducible rfl
    rotate_left
    · simp only [Act.put, List.setIfInBounds_toArray, List.set_cons_zero, List.set_cons_succ, i64_w, i32_w]
      rfl
    refine take_ (i := 0) (N := some 44) (v := ?_) (a' := ?_) #[true, true, false, false, false, false, false, false, false, false, true, false, false, false, false, false] rfl rfl (by kernel_rfl) (fun _ _ _ h => h) (Or.inl ⟨by rfl, ?_⟩) hHeld ?_ ?_
    rotate_left
    · rintro w' ⟨s0, s1, s2⟩
      go_simp
      with_reducible rfl
    rotate_left
    · simp only [Act.put, List.setIfInBounds_toArray, List.set_cons_zero, List.set_cons_succ, i64_w, i32_w]
      rfl
    refine take_ (i := 2) (N := some 46) (v := ?_) (a' := ?_) #[true, true, true, false, false, false, false, false, false, false, true, false, false, false, false, false] rfl rfl (by kernel_rfl) (fun _ _ _ h => h) (Or.inl ⟨by rfl, ?_⟩) hHeld ?_ ?_
    rotate_left
    · rintro w' ⟨s0, s1, s2⟩
      go_simp
      with_reducible rfl
    rotate_left
    · simp only [Act.put, List.setIfInBounds_toArray, List.set_cons_zero, List.set_cons_succ, i64_w, i32_w]
      rfl
    refine take_ (i := 3) (N := some 47) (v := ?_) (a' := ?_) #[true, true, true, true, false, false, false, false, false, false, true, false, false, false, false, false] rfl rfl (by kernel_rfl) (fun _ _ _ h => h) (Or.inl ⟨by rfl, ?_⟩) hHeld ?_ ?_
    rotate_left
    · rintro w' ⟨s0, s1, s2⟩
      go_simp
      with_reducible rfl
    rotate_left
    · simp only [Act.put, List.setIfInBounds_toArray, List.set_cons_zero, List.set_cons_succ, i64_w, i32_w]
      rfl
    refine take_ (i := 4) (N := some 48) (v := ?_) (a' := ?_) #[true, true, true, true, true, false, false, false, false, false, true, false, false, false, false, false] rfl rfl (by kernel_rfl) (fun _ _ _ h => h) (Or.inl ⟨by rfl, ?_⟩) hHeld ?_ ?_
    rotate_left
    · rintro w' ⟨s0, s1, s2⟩
      go_simp
      with_reducible rfl
    rotate_left
    · simp only [Act.put, List.setIfInBounds_toArray, List.set_cons_zero, List.set_cons_succ, i64_w, i32_w]
      rfl
    refine pure_ (i := 5) (N := some 49) (v := ?_) (a' := ?_) #[true, true, true, true, true, true, false, false, false, false, true, false, false, false, false, false] rfl rfl (by kernel_rfl) (fun _ _ _ h => h) (Or.inl ⟨by rfl, ?_⟩) ?_ ?_
    rotate_left
    · intro w'
      go_simp
      with_reducible rfl
    rotate_left
    · simp only [Act.put, List.setIfInBounds_toArray, List.set_cons_zero, List.set_cons_succ, i64_w, i32_w]
      rfl
    refine pure_ (i := 6) (N := some 50) (v := ?_) (a' := ?_) #[true, true, true, true, true, true, true, false, false, false, true, false, false, false, false, false] rfl rfl (by kernel_rfl) (fun _ _ _ h => h) (Or.inl ⟨by rfl, ?_⟩) ?_ ?_
    rotate_left
    · intro w'
      go_simp
      with_reducible rfl
    rotate_left
    · simp only [Act.put, List.setIfInBounds_toArray, List.set_cons_zero, List.set_cons_succ, i64_w, i32_w]
      rfl
    refine pure_ (i := 7) (N := some 51) (v := ?_) (a' := ?_) #[true, true, true, true, true, true, true, true, false, false, true, false, false, false, false, false] rfl rfl (by kernel_rfl) (fun _ _ _ h => h) (Or.inl ⟨by rfl, ?_⟩) ?_ ?_
    rotate_left
    · intro w'
      go_simp
      with_reducible rfl
    rotate_left
    · simp only [Act.put, List.setIfInBounds_toArray, List.set_cons_zero, List.set_cons_succ, i64_w, i32_w]
      rfl
    refine take_ (i := 11) (N := some 55) (v := ?_) (a' := ?_) #[true, true, true, true, true, true, true, true, false, false, true, true, false, false, false, false] rfl rfl (by kernel_rfl) (fun _ _ _ h => h) (Or.inl ⟨by rfl, ?_⟩) hHeld ?_ ?_
    rotate_left
    · rintro w' ⟨s0, s1, s2⟩
      go_simp
      with_reducible rfl
    rotate_left
    · simp only [Act.put, List.setIfInBounds_toArray, List.set_cons_zero, List.set_cons_succ, i64_w, i32_w]
      rfl
    refine one_ (i := 8) (N := some 52) #[true, true, true, true, true, true, true, true, true, false, true, true, false, false, false, false] rfl rfl (by kernel_rfl) (by decide) (fun K hK => ?_)
    have cM2 : W.drew.cell? ⟨g, M, none⟩ = some (.slice a1 m1 c1) := cM
    refine value_ (w1 := ?_) (v := ?_) (by rfl) rfl ?_ ?_
    rotate_left 2
    · go_simp
      constructor
      · rfl
      · rfl
    refine hK.out _ _ ⟨hHeld.1, hHeld.2.1, hHeld.2.2⟩ (fun hHeld => ?_)
    clear hK K
    refine norm_ (a' := ?_) ?_ ?_
    rotate_left
    · show Act.put _ (some 52) _ = _
      simp only [Act.put, List.setIfInBounds_toArray, List.set_cons_zero, List.set_cons_succ, i64_w, i32_w]
      rfl
    refine one_ (i := 9) (N := some 53) #[true, true, true, true, true, true, true, true, true, true, true, true, false, false, false, false] rfl rfl (by kernel_rfl) (by decide) (fun K hK => ?_)
    refine goes_ Tryz.func18 (by kernel_rfl) rfl #[.slice a1 m1 c1] (by rfl) rfl rfl (by simp only [List.map_toArray, List.map_cons, List.map_nil]; rfl) ?_
    with_reducible refine (HS6.out).mono ?_
    rintro e' w8 ⟨rfl, b8⟩
    refine ⟨_, rfl, ?_⟩
    refine hK.out _ _ ⟨(below_cell b8 hHeld.1), (below_cell b8 hHeld.2.1), (below_cell b8 hHeld.2.2)⟩ (fun hHeld => ?_)
    clear hK K
    refine norm_ (a' := ?_) ?_ ?_
    rotate_left
    · show Act.put _ (some 53) _ = _
      simp only [Act.put, List.setIfInBounds_toArray, List.set_cons_zero, List.set_cons_succ, i64_w, i32_w]
      rfl
    refine one_ (i := 12) (N := some 56) #[true, true, true, true, true, true, true, true, true, true, true, true, true, false, false, false] rfl rfl (by kernel_rfl) (by decide) (fun K hK => ?_)
    refine goes_ Tryz.func37 (by kernel_rfl) rfl #[.string s1, .string dt, .string s2] (by rfl) rfl rfl (by simp only [List.map_toArray, List.map_cons, List.map_nil]; rfl) ?_
    with_reducible refine ((HLB.out _)).mono ?_
    rintro e' w9 ⟨A9, c9, rfl, r9, b9⟩
    refine ⟨_, rfl, ?_⟩
    refine hK.out _ _ ⟨(below_cell b9 hHeld.1), (below_cell b9 hHeld.2.1), (below_cell b9 hHeld.2.2)⟩ (fun hHeld => ?_)
    clear hK K
    refine norm_ (a' := ?_) ?_ ?_
    rotate_left
    · show Act.put _ (some 56) _ = _
      simp only [Act.put, List.setIfInBounds_toArray, List.set_cons_zero, List.set_cons_succ, i64_w, i32_w]
      rfl
    refine one_ (i := 13) (N := some 57) #[true, true, true, true, true, true, true, true, true, true, true, true, true, true, false, false] rfl rfl (by kernel_rfl) (by decide) (fun K hK => ?_)
    refine value_ (w1 := ?_) (v := ?_) (by rfl) rfl ?_ ?_
    rotate_left 2
    · go_simp
      constructor
      · rfl
      · rfl
    have al9 := below_alloc (Below.refl _ w9) (.cells #[.slice A9 N8 c9] 22)
    refine hK.out _ _ ⟨(below_cell al9 hHeld.1), (below_cell al9 hHeld.2.1), (below_cell al9 hHeld.2.2)⟩ (fun hHeld => ?_)
    clear hK K
    refine norm_ (a' := ?_) ?_ ?_
    rotate_left
    · show Act.put _ (some 57) _ = _
      simp only [Act.put, List.setIfInBounds_toArray, List.set_cons_zero, List.set_cons_succ, i64_w, i32_w]
      rfl
    refine one_ (i := 14) (N := some 58) #[true, true, true, true, true, true, true, true, true, true, true, true, true, true, true, false] rfl rfl (by kernel_rfl) (by decide) (fun K hK => ?_)
    have FL := (HW.out.2.1.below b8)
    have LQ := LB.lit_n HU.out.2.2.2.2.2 r9.bsa
    have far9 := far_one (far_new FL r9 (Nat.le_refl _))
    have sz9 : S ≤ w9.heap.size := Nat.le_trans HW.out.2.2.2.2 (Nat.le_trans b8.size b9.size)
    refine step_appL rfl (.tmp 44) (.tmp 57) rfl S (Nat.le_trans sz9 al9.size) (some ⟨g, 0, none⟩) c' (M + 1) ps rfl HU.out.1 ((FL.below b9).below al9) (some ⟨w9.heap.size, 0, none⟩) 1 1 w9.heap.size [(A9, c9, T)] rfl rfl LQ far9 h47.out (M + 1 + 1) rfl ?_
    intro R2 c2 w10 L10 B10 G10
    have e1 := ((FL.below b9).below al9).beside HU.out.1 G10 (below_heap al9 (below_heap b9 (below_heap b8 HW.out.1))) (by decide)
    have e2 := ((FL.below b9).below al9).beside HU.out.1 G10 (below_heap al9 (below_heap b9 (below_heap b8 HX.out))) (by decide)
    have d1 := free_at e1 0
    have d0 := cell_at e1 (i := 0) (v := .slice (some ⟨g, 0, none⟩) (M + 1) c') rfl
    refine hK.out _ _ ⟨d0, (cell_at e2 rfl), (cell_at e2 rfl)⟩ (fun hHeld => ?_)
    clear hK K
    refine norm_ (a' := ?_) ?_ ?_
    rotate_left
    · show Act.put _ (some 58) _ = _
      simp only [Act.put, List.setIfInBounds_toArray, List.set_cons_zero, List.set_cons_succ, i64_w, i32_w]
      rfl
    refine last_ (i := 15) (N := none) #[true, true, true, true, true, true, true, true, true, true, true, true, true, true, true, true] rfl rfl (by kernel_rfl) (by decide) (fun K hK => ?_)
    refine skip_ (w1 := ?_) (by rfl) rfl ?_ ?_
    rotate_left
    · go_simp
      rfl
    refine hK.out _ _ ?_
    clear hK K
    refine done_ (by kernel_rfl) ?_
    have L11 := L10.far (keeps_one w10 Sl 0 (.slice R2 (M + 1 + 1) c2)) e1 (by decide)
    have hZl : (w10.setCell ⟨Sl, 0, none⟩ (.slice R2 (M + 1 + 1) c2)).heap[Sl]? = some (.cells #[.slice R2 (M + 1 + 1) c2] 24 (0, 0)) := by rw [heap_set e1]; rfl
    have hD9 := below_heap al9 (below_heap b9 (below_heap b8 HW.out.2.2.1))
    have sD : Sl < Dd := Nat.lt_of_lt_of_le (Nat.lt_trans sbl sb6) HDD.out
    have hD10 : w10.heap[Dd]? = some (.deferred (some [])) := by
      refine (G10.block Dd (Array.getElem?_eq_some_iff.1 hD9).1 (fun e => ?_)).trans hD9
      rw [← HU.out.1] at e
      obtain ⟨cur, h1⟩ := own_typ ((FL.below b9).below al9).1 e.symm
      rw [h1] at hD9
      cases hD9
    have hZD := (keeps_one w10 Sl 0 (.slice R2 (M + 1 + 1) c2)).block Dd (Array.getElem?_eq_some_iff.1 hD10).1 (by omega)
    rw [hD10] at hZD
    have sW8 : S ≤ w8.heap.size := Nat.le_trans HW.out.2.2.2.2 b8.size
    have hBZ : Below S w (w10.setCell ⟨Sl, 0, none⟩ (.slice R2 (M + 1 + 1) c2)) := ((((HW.out.2.2.2.1.trans (b8.mono HW.out.2.2.2.2)).trans (b9.mono sW8)).trans (al9.mono sz9)).trans B10).setCell (p := ⟨Sl, 0, none⟩) (show S ≤ Sl by omega) _
    have lenZ : (ps ++ [(A9, c9, T)]).length = M + 1 + 1 := by rw [List.length_append, HU.out.1]; rfl
    obtain ⟨g2, rfl⟩ := L11.place (by rw [lenZ]; exact Nat.succ_pos _)
    have FZ := hid (And.intro hZl (And.intro hZD (And.intro hBZ (And.intro L11 lenZ))))
    clear cl v0 v1 v2 v3 v4 v5 cM i1 i2 i0 wM L10 B10 G10 e1 e2 d0 d1 al9 b9 b8 r9 FL LQ far9 sz9 hD9 hD10 hZD hBZ hZl L11 HS6 HLB HW HX lenZ sW8
    generalize hZ : w10.setCell ⟨Sl, 0, none⟩ (.slice (some ⟨g2, 0, none⟩) (M + 1 + 1) c2) = Z at *
    have FZD := FZ
    clear hZ FZ
    have cl2 := cell_at FZD.out.1 (i := 0) (v := .slice (some ⟨g2, 0, none⟩) (M + 1 + 1) c2) rfl
    have HRV := hid (rev_any FZD.out.2.2.2.2 FZD.out.2.2.2.1)
    go_wp2_with fail
    refine HRV.out.mono ?_
    rintro e w12 ⟨rfl, L12, K12⟩
    obtain ⟨cur, hg2⟩ := own_typ FZD.out.2.2.2.1.1 (k := g2) rfl
    have nl : Sl ≠ g2 := fun e => by
      have h := FZD.out.1
      rw [e, hg2] at h
      exact absurd (Obj.cells.inj (Option.some.inj h)).2.1 (by decide)
    have nd : Dd ≠ g2 := fun e => by
      have h := FZD.out.2.1
      rw [e, hg2] at h
      cases h
    have hl12 := K12.heap FZD.out.1 nl
    have hD12 : w12.heap[Dd]? = some (.deferred (some [])) := (K12.block Dd (Array.getElem?_eq_some_iff.1 FZD.out.2.1).1 nd).trans FZD.out.2.1
    have cl12 := cell_at hl12 (i := 0) (v := .slice (some ⟨g2, 0, none⟩) (M + 1 + 1) c2) rfl
    have hB12 : Below S w w12 := FZD.out.2.2.1.trans (keeps_below K12 ((FZD.out.2.2.2.1.1.lt g2 rfl).1) (by have := lt_of_block FZD.out.1; omega))
    have LL : (ps ++ [(A9, c9, T)]).reverse.length = M + 1 + 1 := by rw [List.length_reverse]; exact FZD.out.2.2.2.2
    have FF := hid (And.intro hD12 (And.intro hB12 (And.intro L12 LL)))
    clear cl2 HRV hg2 nl nd hl12 hD12 hB12 L12 LL K12 FZD
    go_wp2
    unfold postM
    have EQ : txs (ps ++ [(A9, c9, T)]).reverse = stepsB key s1 s2 px := by
      obtain ⟨-, u3, hWY, htop, hT, -⟩ := HU.out
      have e1 : txs (ps ++ [(A9, c9, T)]).reverse = (txs (ps ++ [(A9, c9, T)])).reverse := by unfold txs; rw [List.map_reverse]
      rw [e1, txs_append, u3, List.reverse_append, List.reverse_reverse]
      unfold stepsB
      rw [← HD.out, ← htop, ← hWY, ← hT]
      rfl
    refine ⟨by simp, .inl ⟨_, _, rfl, run_takeDeferred FF.out.1, ?_⟩⟩
    have L13 := FF.out.2.2.1.kept (grownBy_putObj' w12 Dd (.deferred none)) (fun r e => by cases e; exact ⟨_, FF.out.1, rfl⟩)
    have B13 : Below S w (w12.putObj Dd (.deferred none)) := FF.out.2.1.trans ((Below.refl S w12).grown (grownBy_putObj' w12 Dd (.deferred none)) (by have := FF.out.2.1.size; rw [HS.out] at *; exact this) (fun k e => by
      cases e
      have := HDD.out
      omega))
    rw [HS.out] at L13 B13
    exact ⟨_, results_tmp rfl _ _ _, some ⟨g2, 0, none⟩, c2, M + 1 + 1, _, rfl, hid ⟨FF.out.2.2.2, EQ⟩, L13, B13⟩
end Go.Proofs.YtdhhaibefifdmaaGreatDoor

/- The walks of Steps: the program's and the reference's. -/
namespace Go.Proofs.YtdhhaibefifdmaaGreatDoor
open Go.RowKit PrintLast

theorem readV_fits {p : List UInt8} {x : Prf × ByteArray × ByteArray} (h : readV p = some x) : Fits x.1 ∧ x.2.1.size = 32 ∧ x.2.2.size = 32 ∧ 64 ≤ p.length := by
  unfold readV at h
  split at h
  · cases h
  · rename_i h64
    cases hd : decB (p.drop 64) with
    | error e => rw [hd] at h; cases h
    | ok y =>
      rw [hd] at h
      obtain rfl := Option.some.inj h
      refine ⟨decB_fits hd, ?_, ?_, by omega⟩
      · rw [strB_size, List.length_take]; omega
      · rw [strB_size, List.length_take, List.length_drop]; omega
/-- What Steps answers. -/
def GaveL (w : World) (r : Option (List (List UInt8))) (e : Ending) (w' : World) : Prop :=
  ∃ R N c ok ps, e = .returned (.tuple #[.slice R N c, .bool ok]) ∧ Hid (ps.length = N ∧ ok = r.isSome ∧ txs ps = r.getD []) ∧ LB w' w.heap.size R c ps ∧ Below w.heap.size w w'

set_option maxRecDepth 100000 in
set_option maxHeartbeats 3200000 in
theorem psteps_any {w : World} (hT : Table w) {A : Option Addr} {c n : Nat} {p : List UInt8} {key : ByteArray} (hn : p.length = n) (hp : BSA w A c p) (hb : n ≤ 1000000) (hk : key.size ≤ 60000) :
    Calls Tryz.prog 5 #[.string key, .slice A n c] w (GaveL w (stepsP key p)) := by
  have HR := hid (read_any hn hp hb)
  have TT := hid hT
  clear hn hp hT
  go_enter Tryz.func5, Tryz.ntmps5
  go_wp2_with fail
  refine HR.out.mono ?_
  rintro e w1 ⟨A1, n1, c1, kd, ky, B1, m1, d1, s1, s2, ok, rfl, HV, b1⟩
  unfold laidV
  have g1 := heap_alloc_new w1 (.cells #[.slice A1 n1 c1, .int .u8 kd, .string ky, .slice B1 m1 d1, .string s1, .string s2] 54)
  have al := below_alloc (Below.refl _ w1) (.cells #[.slice A1 n1 c1, .int .u8 kd, .string ky, .slice B1 m1 d1, .string s1, .string s2] 54)
  have BB := hid (below_then b1 al)
  replace TT := hid ((TT.out.below b1).below al)
  have AL := hid al
  cases ok with
  | false =>
    have E := hid (show stepsP key p = none by
      unfold stepsP
      have := HV.out.1
      cases hr : readV p with
      | none => rfl
      | some x => rw [hr] at this; cases this)
    clear HR b1 al g1 AL
    go_wp2
    go_ret2
    exact ⟨none, 0, 0, false, [], rfl, hid ⟨rfl, by rw [E.out]; rfl, by rw [E.out]; rfl⟩, LB.nil _ _, BB.out⟩
  | true =>
    obtain ⟨x, hx⟩ : ∃ x, readV p = some x := by
      cases hr : readV p with
      | none => have := HV.out.1; rw [hr] at this; cases this
      | some x => exact ⟨x, rfl⟩
    obtain ⟨h1, h2, h3⟩ := HV.out.2 x hx
    obtain ⟨f1, f2, f3, -⟩ := readV_fits hx
    have E := hid (show stepsP key p = some (stepsB key s1 s2 x.1) by unfold stepsP; rw [hx, ← h2, ← h3]; rfl)
    have HS0 := lsteps_any (key := key) (s1 := s1) (s2 := s2) TT.out (h1.below al) hk f1 (by rw [← h2, f2]; decide) (by rw [← h3, f3]; decide)
    unfold laidV at HS0
    have HS := hid HS0
    obtain ⟨S, hS⟩ : ∃ S, S = w1.heap.size := ⟨_, rfl⟩
    have HSS := hid hS
    rw [← hS] at g1
    obtain ⟨v0, v1, v2, v3, v4, v5, -, -, -, -, -, -⟩ := six g1
    clear HR b1 al g1 AL hx h1 h2 h3 f1 f2 f3 HV HS0 hS
    go_upto_region 2 with fail
    rw [← HSS.out]
    generalize w1.alloc (.cells #[.slice A1 n1 c1, .int .u8 kd, .string ky, .slice B1 m1 d1, .string s1, .string s2] 54) = w2 at *
    go_wp2_with fail
    refine HS.out.mono ?_
    rintro e w3 ⟨R, c3, N, ps, rfl, HP, L3, b3⟩
    have BF := below_then BB.out b3
    have LF := L3.lower BB.out.size
    go_wp2
    go_ret2
    exact ⟨R, N, c3, true, ps, rfl, hid ⟨HP.out.1, by rw [E.out]; rfl, by rw [E.out]; exact HP.out.2⟩, LF, BF⟩
end Go.Proofs.YtdhhaibefifdmaaGreatDoor

/- The walk of the reference's Steps. -/
namespace Go.Proofs.YtdhhaibefifdmaaGreatDoor
open Go.RowKit PrintLast

theorem stepsP_short {key : ByteArray} {p : List UInt8} (h : p.length < 64) : stepsP key p = none := by unfold stepsP readV; rw [if_pos h]; rfl
theorem stepsP_err {key : ByteArray} {p : List UInt8} (h : ¬ p.length < 64) (he : (resB (p.drop 64)).1 ≠ 0) : stepsP key p = none := by
  have h1 := (readV_res h).1
  rw [decide_eq_false he] at h1
  unfold stepsP
  cases hr : readV p with
  | none => rfl
  | some x => rw [hr] at h1; cases h1
theorem stepsP_ok {key : ByteArray} {p : List UInt8} (h : ¬ p.length < 64) (he : (resB (p.drop 64)).1 = 0) : stepsP key p = some (stepsB key (strB (p.take 32)) (strB ((p.drop 32).take 32)) (resB (p.drop 64)).2) ∧ Fits (resB (p.drop 64)).2 := by
  have h1 := readV_res h
  rw [decide_eq_true he] at h1
  cases hr : readV p with
  | none => rw [hr] at h1; cases h1.1
  | some x =>
    have hx := h1.2 x hr
    have hf := (readV_fits hr).1
    unfold stepsP
    rw [hr, hx] at *
    exact ⟨rfl, hf⟩
theorem wayS_ne (path d : List UInt8) (i : Nat) (l : List ByteArray) : wayS path d i l ≠ [] := by
  obtain ⟨r, h⟩ := wayS_top path d i l
  rw [h]
  simp
/-- The head of a list. -/
theorem head_text {ps : List Part} {h : List UInt8} {r : List (List UInt8)} (e : txs ps = h :: r) (hl : 0 < ps.length) : (ps[0]).2.2 = h := by
  cases ps with
  | nil => simp at hl
  | cons a l =>
    simp [txs] at e
    exact e.1
/-- A literal of one, with a list behind it. -/
theorem LB.before {w : World} {B : Nat} {R : Option Addr} {c : Nat} {ps : List Part} {g : Nat} (h : LB w B R c ps) (hg : w.heap.size ≤ g) : ∀ q ∈ ps, FarB (some ⟨g, 0, none⟩) q := fun q hq => far_old (A' := q.1) (c' := q.2.1) (l := q.2.2) (h.2 q hq).1 hg

end Go.Proofs.YtdhhaibefifdmaaGreatDoor

/- What both walks of Clash need: of what is hashed, how long it is, and one of a list. -/
namespace Go.Proofs.YtdhhaibefifdmaaGreatDoor
open Go.RowKit PrintLast

theorem clashL_get {l m : List (List UInt8)} {k : Nat} {x y : List UInt8} (h1 : l[k]? = some x) (h2 : m[k]? = some y) : clashL (l.drop k) (m.drop k) = if x ≠ y ∧ dig x = dig y then some (x, y) else clashL (l.drop (k + 1)) (m.drop (k + 1)) := by
  obtain ⟨a1, e1⟩ := List.getElem?_eq_some_iff.1 h1
  obtain ⟨a2, e2⟩ := List.getElem?_eq_some_iff.1 h2
  rw [List.drop_eq_getElem_cons a1, List.drop_eq_getElem_cons a2, e1, e2]
  rfl
theorem clashL_end {l m : List (List UInt8)} {k : Nat} (h : l.length ≤ k ∨ m.length ≤ k) : clashL (l.drop k) (m.drop k) = none := by
  rcases h with h | h
  · rw [List.drop_of_length_le h]
    cases m.drop k <;> rfl
  · rw [List.drop_of_length_le h]
    cases l.drop k <;> rfl
/-- What Clash answers. -/
def GaveC (w : World) (r : Option (List UInt8 × List UInt8)) (e : Ending) (w' : World) : Prop :=
  ∃ A1 m1 c1 A2 m2 c2 ok u v, e = .returned (.tuple #[.slice A1 m1 c1, .slice A2 m2 c2, .bool ok]) ∧ Hid (u.length = m1 ∧ v.length = m2 ∧ BSA w' A1 c1 u ∧ BSA w' A2 c2 v ∧ ok = r.isSome ∧ (u, v) = r.getD ([], [])) ∧ Below w.heap.size w w'
theorem GaveC.none_ {w w' : World} {r : Option (List UInt8 × List UInt8)} (h : r = none) (hb : Below w.heap.size w w') : GaveC w r (.returned (.tuple #[.slice none 0 0, .slice none 0 0, .bool false])) w' :=
  ⟨none, 0, 0, none, 0, 0, false, [], [], rfl, hid ⟨rfl, rfl, BSA.nil _, BSA.nil _, by rw [h]; rfl, by rw [h]; rfl⟩, hb⟩
theorem endD_long {key : ByteArray} {x : Prf} (hk : key.size ≤ 60000) (hx : Fits x) : (endD key x).length ≤ 100000 := by
  have q1 := hx.2.2.2.1
  have q2 := hx.2.2.2.2.1
  unfold endD
  split
  · rw [leafB_length]; simp; omega
  · split
    · rw [leafB_length]; simp; omega
    · simp
theorem steps_long {key : ByteArray} {p : List UInt8} {L : List (List UInt8)} (hk : key.size ≤ 60000) (h : stepsP key p = some L) : ∀ t ∈ L, t.length ≤ 200000 := by
  obtain ⟨x, hx, hL⟩ : ∃ x, readV p = some x ∧ stepsB key x.2.1 x.2.2 x.1 = L := by
    unfold stepsP at h
    cases hr : readV p with
    | none => rw [hr] at h; cases h
    | some x => rw [hr] at h; exact ⟨x, rfl, Option.some.inj h⟩
  obtain ⟨f1, f2, f3, f4⟩ := readV_fits hx
  have hd := endD_long hk f1
  have way : ∀ (l : List ByteArray) (i : Nat), (∀ s ∈ l, s.size = 32) → ∀ t ∈ wayS (pathK key) (endD key x.1) i l, t.length ≤ 200000 := by
    intro l
    induction l with
    | nil =>
      intro i _ t ht
      have e : t = endD key x.1 := by simpa [wayS] using ht
      rw [e]; omega
    | cons s l ih =>
      intro i hs t ht
      rw [wayS_cons] at ht
      rcases List.mem_cons.1 ht with rfl | ht
      · rw [stepU_length _ _ _ _ (hs s (by simp))]; omega
      · exact ih (i + 1) (fun s hs' => hs s (by simp [hs'])) t ht
  intro t ht
  rw [← hL] at ht
  unfold stepsB at ht
  rcases List.mem_cons.1 ht with rfl | ht
  · rw [(linkB_at _ f2 f3).2]; omega
  · exact way _ 0 f1.1 t ht
/-- One element of a list of what is hashed. -/
theorem LB.pick {w : World} {B c k : Nat} {R : Option Addr} {ps : List Part} (h : LB w B R c ps) (hk : k < ps.length) : ∃ g a m d x, R = some ⟨g, 0, none⟩ ∧ w.cell? ⟨g, k, none⟩ = some (.slice a m d) ∧ BSA w a d x ∧ x.length = m ∧ (txs ps)[k]? = some x := by
  obtain ⟨g, rfl⟩ := h.place (by omega)
  exact ⟨g, _, _, _, _, rfl, h.cell k hk, h.elem k hk, rfl, by unfold txs; rw [List.getElem?_map, List.getElem?_eq_getElem hk]; rfl⟩
end Go.Proofs.YtdhhaibefifdmaaGreatDoor

/- The walks of beside, tells and Check. -/
namespace Go.Proofs.YtdhhaibefifdmaaGreatDoor
open Go.RowKit PrintLast

theorem besideB_no {key other : ByteArray} {n i : Nat} (hi : i < n) (h : bitOf (pathK key) (i : Int) ≠ bitOf (pathK other) (i : Int)) : besideB key other n = false := by
  unfold besideB
  rw [decide_eq_false (fun e => h (e i hi)), Bool.false_and]
theorem besideB_end {key other : ByteArray} {n : Nat} (h : ∀ i, i < n → bitOf (pathK key) (i : Int) = bitOf (pathK other) (i : Int)) : besideB key other n = !decide (key = other) := by
  unfold besideB
  rw [decide_eq_true h, Bool.true_and]
  by_cases e : key = other <;> simp [e]

set_option maxRecDepth 100000 in
set_option maxHeartbeats 3200000 in
theorem beside_any {w : World} (hT : Table w) {key other : ByteArray} {d : Nat} (hk : key.size ≤ 1000000) (ho : other.size ≤ 1000000) (hd : d ≤ 1000) :
    Calls Tryz.prog 42 #[.string key, .string other, .int .i64 (d : Int)] w fun e w' => e = .returned (.bool (besideB key other d)) ∧ Below w.heap.size w w' := by
  have ks : key.size ≤ maxLen := by unfold maxLen; omega
  have os : other.size ≤ maxLen := by unfold maxLen; omega
  have TT := hid hT
  clear hT
  go_enter Tryz.func42, Tryz.ntmps42
  go_wp2_with (refine wpList_conv rfl (.tmp 10) rfl key rfl ks ?_)
  intro g1 c1 w1 _ q1 b1
  replace TT := hid (TT.out.below b1)
  have BB := hid b1
  have HC1 := hid (sum_dig (bsz key) TT.out q1 (by rw [bsz]; omega))
  clear b1 q1
  go_wp2_with fail
  refine HC1.out.mono ?_
  rintro e w2 ⟨rfl, b2⟩
  replace TT := hid (TT.out.below b2)
  replace BB := hid (below_then BB.out b2)
  obtain ⟨K1, hK1⟩ : ∃ K, K = dig key.data.toList := ⟨_, rfl⟩
  rw [← hK1]
  have HK1 := hid hK1
  clear HC1 b2 hK1
  go_wp2_with (refine wpList_conv rfl (.tmp 13) rfl other rfl os ?_)
  intro g3 c3 w3 _ q3 b3
  replace TT := hid (TT.out.below b3)
  replace BB := hid (below_then BB.out b3)
  have HC3 := hid (sum_dig (bsz other) TT.out q3 (by rw [bsz]; omega))
  clear b3 q3
  go_wp2_with fail
  refine HC3.out.mono ?_
  rintro e w4 ⟨rfl, b4⟩
  replace BB := hid (below_then BB.out b4)
  obtain ⟨K2, hK2⟩ : ∃ K, K = dig other.data.toList := ⟨_, rfl⟩
  rw [← hK2]
  have HK2 := hid hK2
  clear HC3 b4 hK2 TT
  go_wp2
  go_loopw [17] (fun v wr => ∃ k : Nat, k ≤ d ∧ v = .int .i64 (k : Int) ∧ Hid (∀ i, i < k → bitOf (pathK key) (i : Int) = bitOf (pathK other) (i : Int)) ∧ w4 = wr) (fun v _ => d - (intOf v).toNat)
  case atStart => exact ⟨0, Nat.zero_le _, rfl, hid (fun i hi => absurd hi (Nat.not_lt_zero i)), rfl⟩
  case round =>
    obtain ⟨k, hkd, rfl, hP, rfl⟩ := hrel
    by_cases hlt : k < d
    · obtain ⟨x1, hx1⟩ : ∃ x, x = bitOf K1.data.toList (k : Int) := ⟨_, rfl⟩
      obtain ⟨x2, hx2⟩ : ∃ x, x = bitOf K2.data.toList (k : Int) := ⟨_, rfl⟩
      have B1 := bit_any (w := w4) (s := K1) (i := (k : Int)) (by rw [HK1.out, dig_list, sum256_length]; decide) (by omega)
      have B2 := bit_any (w := w4) (s := K2) (i := (k : Int)) (by rw [HK2.out, dig_list, sum256_length]; decide) (by omega)
      rw [← hx1] at B1
      rw [← hx2] at B2
      have HB1 := hid B1
      have HB2 := hid B2
      have y1 : x1 = bitOf (pathK key) (k : Int) := by rw [hx1, HK1.out, dig_list]; rfl
      have y2 : x2 = bitOf (pathK other) (k : Int) := by rw [hx2, HK2.out, dig_list]; rfl
      have HY := hid (And.intro y1 y2)
      clear B1 B2 hx1 hx2 y1 y2
      go_wp2_with fail
      refine HB1.out.mono ?_
      rintro e w5 ⟨rfl, rfl⟩
      go_wp2_with fail
      refine HB2.out.mono ?_
      rintro e w5 ⟨rfl, rfl⟩
      clear HB1 HB2
      by_cases he : x1 = x2
      · have t1 : (x1 == x2) = true := by rw [he]; exact beq_self_eq_true _
        have t2 : (x1 != x2) = false := by unfold bne; rw [t1]; rfl
        have hP2 := hid (show ∀ i, i < k + 1 → bitOf (pathK key) (i : Int) = bitOf (pathK other) (i : Int) from fun i hi => by
          by_cases hik : i = k
          · rw [hik, ← HY.out.1, ← HY.out.2, he]
          · exact hP.out i (by omega))
        clear he
        go_wp2
        go_roundw
        case rel => exact ⟨k + 1, hlt, by go_num, hP2, (by first | exact rfl | exact trivial)⟩
        case measure => simp [intOf]; omega
      · have t1 : (x1 == x2) = false := beq_eq_false_iff_ne.2 he
        have t2 : (x1 != x2) = true := by unfold bne; rw [t1]; rfl
        have E := hid (besideB_no (key := key) (other := other) hlt (by rw [← HY.out.1, ← HY.out.2]; exact he))
        clear he
        go_wp2
        go_ret
        rw [E.out]
        exact ⟨rfl, BB.out⟩
    · obtain rfl : k = d := by omega
      have E := hid (besideB_end hP.out)
      go_wp2
      go_ret
      rw [E.out]
      refine ⟨?_, BB.out⟩
      show Ending.returned (.bool (!(key.toList == other.toList))) = _
      rw [str_beq]

set_option maxRecDepth 100000 in
set_option maxHeartbeats 3200000 in
theorem tells_any {w : World} (hT : Table w) {A B C : Option Addr} {n c m d r D : Nat} {kd : Int} {ky key s1 s2 : ByteArray} {x : Prf} {row : List UInt8} {there : Bool} (hx : LaidAt w A n c kd ky B m d x) (hk : key.size ≤ 1000000) (hf : Fits x) (hr : row.length = r) (hR : BSA w C D row) :
    Calls Tryz.prog 19 #[.agg (laidV A n c kd ky B m d s1 s2), .string key, .slice C r D, .bool there] w fun e w' => e = .returned (.bool (tellsB key row there x)) ∧ Below w.heap.size w w' := by
  unfold laidV
  have al := below_alloc (Below.refl _ w) (.cells #[.slice A n c, .int .u8 kd, .string ky, .slice B m d, .string s1, .string s2] 54)
  have g0 := heap_alloc_new w (.cells #[.slice A n c, .int .u8 kd, .string ky, .slice B m d, .string s1, .string s2] 54)
  have LX := hid (hx.below al)
  have RR := hid (And.intro hr (hR.below al))
  have TT := hid (hT.below al)
  have FX := hid hf
  obtain ⟨S, hS⟩ : ∃ S, S = w.heap.size := ⟨_, rfl⟩
  have HS := hid hS
  have BB := hid al
  rw [← hS] at g0
  have hkd := hid (show kd = (x.kind.toNat : Int) from hx.2.1.symm)
  have hky := hid (show ky = x.key from hx.2.2.symm)
  obtain ⟨v0, v1, v2, v3, v4, v5, -, -, -, -, -, -⟩ := six g0
  have r0 : r ≤ 9223372036854775807 := by rw [← hr]; exact hR.le
  clear hx hr hR hT hf al hS g0
  cases there with
  | true =>
    by_cases h1 : x.kind = 1
    · have t1 : (kd == 1) = true := by rw [hkd.out, h1]; rfl
      have E := hid (show tellsB key row true x = decide (x.row = row) by unfold tellsB; rw [if_pos rfl, decide_eq_true h1, Bool.true_and])
      have HE := hid (equalB_any LX.out.1.2.1 RR.out.1 LX.out.1.2.2.2.2 RR.out.2)
      clear h1
      go_enter Tryz.func19, Tryz.ntmps19
      go_upto_region 1 with fail
      rw [← HS.out]
      generalize w.alloc (.cells #[.slice A n c, .int .u8 kd, .string ky, .slice B m d, .string s1, .string s2] 54) = W at *
      go_wp2_with fail
      refine HE.out.mono ?_
      rintro e w1 ⟨rfl, rfl⟩
      go_wp2
      go_ret
      rw [E.out]
      exact ⟨rfl, BB.out⟩
    · have t1 : (kd == 1) = false := by rw [hkd.out]; exact kind_bne h1
      have E := hid (show tellsB key row true x = false by unfold tellsB; rw [if_pos rfl, decide_eq_false h1, Bool.false_and])
      clear h1
      go_enter Tryz.func19, Tryz.ntmps19
      go_upto_region 1 with fail
      rw [← HS.out]
      generalize w.alloc (.cells #[.slice A n c, .int .u8 kd, .string ky, .slice B m d, .string s1, .string s2] 54) = W at *
      go_wp2
      go_ret
      rw [E.out]
      exact ⟨rfl, BB.out⟩
  | false =>
    by_cases h0 : row = []
    · have z : r = 0 := by rw [← RR.out.1, h0]; rfl
      subst z
      by_cases k0 : x.kind = 0
      · have t1 : (kd == 0) = true := by rw [hkd.out, k0]; rfl
        have E := hid (show tellsB key row false x = true by unfold tellsB; rw [if_neg (by decide), decide_eq_true h0, decide_eq_true k0]; rfl)
        clear h0 k0
        go_enter Tryz.func19, Tryz.ntmps19
        go_upto_region 1 with fail
        rw [← HS.out]
        generalize w.alloc (.cells #[.slice A n c, .int .u8 kd, .string ky, .slice B m d, .string s1, .string s2] 54) = W at *
        go_wp2
        go_ret
        rw [E.out]
        exact ⟨rfl, BB.out⟩
      · have t1 : (kd == 0) = false := by rw [hkd.out]; exact kind_bne k0
        by_cases k2 : x.kind = 2
        · have t2 : (kd == 2) = true := by rw [hkd.out, k2]; rfl
          have E := hid (show tellsB key row false x = besideB key ky n by unfold tellsB; rw [if_neg (by decide), decide_eq_true h0, decide_eq_false k0, decide_eq_true k2, ← hky.out, LX.out.1.1]; rfl)
          have HB := hid (beside_any (key := key) (other := ky) (d := n) TT.out hk (by rw [hky.out]; have := FX.out.2.2.2.1; omega) (by rw [← LX.out.1.1]; have := FX.out.2.1; omega))
          clear h0 k0 k2
          go_enter Tryz.func19, Tryz.ntmps19
          go_upto_region 1 with fail
          rw [← HS.out]
          generalize w.alloc (.cells #[.slice A n c, .int .u8 kd, .string ky, .slice B m d, .string s1, .string s2] 54) = W at *
          go_wp2_with fail
          refine HB.out.mono ?_
          rintro e w1 ⟨rfl, b1⟩
          have BF := below_then BB.out b1
          go_wp2
          go_ret
          rw [E.out]
          exact ⟨rfl, BF⟩
        · have t2 : (kd == 2) = false := by rw [hkd.out]; exact kind_bne k2
          have E := hid (show tellsB key row false x = false by unfold tellsB; rw [if_neg (by decide), decide_eq_true h0, decide_eq_false k0, decide_eq_false k2]; rfl)
          clear h0 k0 k2
          go_enter Tryz.func19, Tryz.ntmps19
          go_upto_region 1 with fail
          rw [← HS.out]
          generalize w.alloc (.cells #[.slice A n c, .int .u8 kd, .string ky, .slice B m d, .string s1, .string s2] 54) = W at *
          go_wp2
          go_ret
          rw [E.out]
          exact ⟨rfl, BB.out⟩
    · have z : r ≠ 0 := fun e => h0 (List.eq_nil_of_length_eq_zero (RR.out.1.trans e))
      have t1 : ((r : Int) == 0) = false := by rw [beq_eq_false_iff_ne]; omega
      have E := hid (show tellsB key row false x = false by unfold tellsB; rw [if_neg (by decide), decide_eq_false h0]; rfl)
      clear h0
      go_enter Tryz.func19, Tryz.ntmps19
      go_upto_region 1 with fail
      rw [← HS.out]
      generalize w.alloc (.cells #[.slice A n c, .int .u8 kd, .string ky, .slice B m d, .string s1, .string s2] 54) = W at *
      go_wp2
      go_ret
      rw [E.out]
      exact ⟨rfl, BB.out⟩
end Go.Proofs.YtdhhaibefifdmaaGreatDoor

/- The walk of the program's Check. -/
namespace Go.Proofs.YtdhhaibefifdmaaGreatDoor
open Go.RowKit PrintLast

theorem accept_none {digest key : ByteArray} {row p : List UInt8} {there : Bool} (h : readV p = none) : acceptB digest key row there p = false := by unfold acceptB; rw [h]
theorem accept_some {digest key : ByteArray} {row p : List UInt8} {there : Bool} {x : Prf × ByteArray × ByteArray} (h : readV p = some x) : acceptB digest key row there p = (tellsB key row there x.1 && decide (dig ((stepsB key x.2.1 x.2.2 x.1).headD []) = digest)) := by unfold acceptB; rw [h]
theorem stepsB_top (key last sum : ByteArray) (x : Prf) : ∃ h r, stepsB key last sum x = h :: r ∧ h.length ≤ 33 + last.size + sum.size := ⟨_, _, rfl, by rw [linkB_length, sum256_length]; simp; omega⟩

set_option maxRecDepth 100000 in
set_option maxHeartbeats 6400000 in
theorem check_acc {w : World} (hT : Table w) {A C : Option Addr} {c n r D : Nat} {p row : List UInt8} {digest key : ByteArray} {there : Bool} (hn : p.length = n) (hp : BSA w A c p) (hb : n ≤ 1000000) (hk : key.size ≤ 60000) (hr : row.length = r) (hR : BSA w C D row) :
    Calls Tryz.prog 8 #[.string digest, .string key, .slice C r D, .bool there, .slice A n c] w fun e w' => e = .returned (.bool (acceptB digest key row there p)) ∧ Below w.heap.size w w' := by
  have HR := hid (read_any hn hp hb)
  have TT := hid hT
  have RR := hid (And.intro hr hR)
  clear hn hp hT hr hR
  go_enter Tryz.func8, Tryz.ntmps8
  go_wp2_with fail
  refine HR.out.mono ?_
  rintro e w1 ⟨A1, n1, c1, kd, ky, B1, m1, d1, s1, s2, ok, rfl, HV, b1⟩
  unfold laidV
  have g1 := heap_alloc_new w1 (.cells #[.slice A1 n1 c1, .int .u8 kd, .string ky, .slice B1 m1 d1, .string s1, .string s2] 54)
  have al := below_alloc (Below.refl _ w1) (.cells #[.slice A1 n1 c1, .int .u8 kd, .string ky, .slice B1 m1 d1, .string s1, .string s2] 54)
  have BB := hid (below_then b1 al)
  replace TT := hid ((TT.out.below b1).below al)
  replace RR := hid (And.intro RR.out.1 ((RR.out.2.below b1).below al))
  cases ok with
  | false =>
    have E := hid (accept_none (digest := digest) (key := key) (row := row) (p := p) (there := there) (by
      have := HV.out.1
      cases hr : readV p with
      | none => rfl
      | some x => rw [hr] at this; cases this))
    clear HR b1 al g1
    go_wp2
    go_ret
    rw [E.out]
    exact ⟨rfl, BB.out⟩
  | true =>
    obtain ⟨x, hx⟩ : ∃ x, readV p = some x := by
      cases hr : readV p with
      | none => have := HV.out.1; rw [hr] at this; cases this
      | some x => exact ⟨x, rfl⟩
    obtain ⟨h1, h2, h3⟩ := HV.out.2 x hx
    obtain ⟨f1, f2, f3, -⟩ := readV_fits hx
    have E := hid (accept_some (digest := digest) (key := key) (row := row) (there := there) hx)
    rw [h2, h3] at E
    have HT0 := tells_any (key := key) (s1 := s1) (s2 := s2) (there := there) TT.out (h1.below al) (by omega) f1 RR.out.1 RR.out.2
    unfold laidV at HT0
    have HT := hid HT0
    have HX := hid (And.intro (h1.below al) (And.intro f1 (And.intro (show s1.size = 32 by rw [← h2, f2]) (show s2.size = 32 by rw [← h3, f3]))))
    obtain ⟨S, hS⟩ : ∃ S, S = w1.heap.size := ⟨_, rfl⟩
    have HSS := hid hS
    rw [← hS] at g1
    have G1 := hid g1
    obtain ⟨v0, v1, v2, v3, v4, v5, -, -, -, -, -, -⟩ := six g1
    clear HR b1 al g1 hx h1 h2 h3 f1 f2 f3 HV HT0 hS
    go_upto_region 2 with fail
    rw [← HSS.out]
    generalize w1.alloc (.cells #[.slice A1 n1 c1, .int .u8 kd, .string ky, .slice B1 m1 d1, .string s1, .string s2] 54) = w2 at *
    go_wp2_with fail
    refine HT.out.mono ?_
    rintro e w3 ⟨rfl, b3⟩
    replace BB := hid (below_then BB.out b3)
    replace TT := hid (TT.out.below b3)
    replace G1 := hid (below_heap b3 G1.out)
    have X3 := HX.out.1.below b3
    clear v0 v1 v2 v3 v4 v5 b3 HT
    cases htl : tellsB key row there x.1 with
    | false =>
      have E2 := hid E.out
      rw [htl, Bool.false_and] at E2
      go_wp2
      go_ret
      rw [E2.out]
      exact ⟨rfl, BB.out⟩
    | true =>
      have E2 := hid E.out
      rw [htl, Bool.true_and] at E2
      have HS0 := lsteps_any (key := key) (s1 := s1) (s2 := s2) TT.out X3 hk HX.out.2.1 (by rw [HX.out.2.2.1]; decide) (by rw [HX.out.2.2.2]; decide)
      unfold laidV at HS0
      have HS := hid HS0
      obtain ⟨v0, v1, v2, v3, v4, v5, -, -, -, -, -, -⟩ := six G1.out
      clear HS0 htl E X3
      go_wp2_with fail
      refine HS.out.mono ?_
      rintro e w4 ⟨R, c4, N, ps, rfl, HP, L4, b4⟩
      obtain ⟨top, rst, hup, hlen⟩ := stepsB_top key s1 s2 x.1
      rw [hup] at E2
      obtain ⟨q1, q2⟩ := HP.out
      rw [hup] at q2
      have h0 : 0 < ps.length := by
        have := congrArg List.length q2
        rw [txs_length] at this
        rw [this]
        exact Nat.succ_pos _
      obtain ⟨g, rfl⟩ := L4.place h0
      have c0 := L4.cell 0 h0
      have e0 := L4.elem 0 h0
      have t0 : (ps[0]).2.2 = top := head_text q2 h0
      obtain ⟨a1, m2, d2, hv1, hm1⟩ : ∃ a m c, partV ps[0] = .slice a m c ∧ (ps[0]).2.2.length = m := ⟨_, _, _, rfl, rfl⟩
      have ev : (ps[0]).1 = a1 ∧ (ps[0]).2.1 = d2 := ⟨(Value.slice.inj hv1).1, (Value.slice.inj hv1).2.2⟩
      rw [t0, ev.1, ev.2] at e0
      rw [t0] at hm1
      rw [hv1] at c0
      have tl : top.length ≤ 1000 := by rw [HX.out.2.2.1, HX.out.2.2.2] at hlen; omega
      have HC := hid (sum_dig (w := w4) hm1 (TT.out.below b4) e0 (by omega))
      have i1 : (0 : Int) < (N : Int) := by omega
      replace BB := hid (below_then BB.out b4)
      have EE := hid (show acceptB digest key row there p = decide (dig top = digest) from E2.out)
      clear HS q1 q2 hup h0 e0 t0 hv1 hm1 ev tl L4 b4 hlen E2 HP
      go_wp2_with fail
      refine HC.out.mono ?_
      rintro e w5 ⟨rfl, b5⟩
      have BF := below_then BB.out b5
      go_wp2
      go_ret
      rw [EE.out]
      refine ⟨?_, BF⟩
      show Ending.returned (.bool ((dig top).toList == digest.toList)) = _
      rw [str_beq]
end Go.Proofs.YtdhhaibefifdmaaGreatDoor
