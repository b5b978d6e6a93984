/- The walks of bytes.HasPrefix, of the program's next. -/
import Derived.Test.YtponofojildbmaaDoorWalA
set_option linter.unusedVariables false
set_option linter.unusedSimpArgs false
namespace Go.Proofs.YtponofojildbmaaDoor
open Go.RowKit PrintLast

theorem BSA.place {w : World} {A : Option Addr} {c : Nat} {l : List UInt8} (h : BSA w A c l) (h0 : 0 < l.length) : ∃ g o, A = some ⟨g, o, none⟩ := by
  obtain ⟨ad, rfl, c0⟩ := h.cell 0 h0
  obtain ⟨g, o, sp⟩ := ad
  have hs : sp = none := by simpa [Addr.add] using World.cell?_spot c0
  subst hs
  exact ⟨g, o, rfl⟩
theorem add_at (g o i : Nat) : (⟨g, o, none⟩ : Addr).add i = ⟨g, o + i, none⟩ := by unfold Addr.add; split <;> simp_all
theorem BSA.at_ {w : World} {g o c : Nat} {l : List UInt8} (h : BSA w (some ⟨g, o, none⟩) c l) (k : Nat) (hk : k < l.length) : w.cell? ⟨g, o + k, none⟩ = some (.int .u8 (l[k].toNat : Int)) := by
  have := h.2.2.2 _ rfl k hk
  rwa [add_at] at this
theorem BSA.cut {w : World} {g o c : Nat} {l : List UInt8} (h : BSA w (some ⟨g, o, none⟩) c l) (k : Nat) (hk : k ≤ l.length) : BSA w (some ⟨g, o + k, none⟩) (c - k) (l.drop k) := by
  obtain ⟨h1, h2, h3, h4⟩ := h
  refine ⟨by rw [List.length_drop]; omega, by omega, (fun e => by cases e), fun ad e j hj => ?_⟩
  cases e
  rw [add_at, List.getElem_drop, Nat.add_assoc]
  have := h4 _ rfl (k + j) (by rw [List.length_drop] at hj; omega)
  rwa [add_at] at this
theorem BSA.head {w : World} {A : Option Addr} {c : Nat} {l : List UInt8} (h : BSA w A c l) (k : Nat) : BSA w A c (l.take k) := by
  obtain ⟨h1, h2, h3, h4⟩ := h
  refine ⟨by rw [List.length_take]; omega, h2, h3, fun ad e j hj => ?_⟩
  rw [List.getElem_take]
  exact h4 ad e j (by rw [List.length_take] at hj; omega)

set_option maxHeartbeats 1600000 in
theorem prefix_any {w : World} {g o c d n m : Nat} {B : Option Addr} {x y : List UInt8} (h1 : x.length = n) (h2 : y.length = m) (hx : BSA w (some ⟨g, o, none⟩) c x) (hy : BSA w B d y) (hm : 0 < m) (hmn : m ≤ n) :
    Calls Tryd.prog 52 #[.slice (some ⟨g, o, none⟩) n c, .slice B m d] w fun e w' => e = .returned (.bool (decide (x.take m = y))) ∧ w = w' := by
  have lt : (x.take m).length = m := by rw [List.length_take]; omega
  have hcn : n ≤ c := by rw [← h1]; exact hx.1
  have hc2 := hx.2.1
  have H := hid (equal_any lt h2 (hx.head m) hy (by omega) (by omega))
  have t1 : decide ((m : Int) ≤ (n : Int)) = true := by simp; omega
  have hmc : m ≤ c := by omega
  unfold maxLen at hc2
  clear h1 h2 hx hy lt
  go_enter Tryd.func52, Tryd.ntmps52
  go_wp2_with fail
  refine H.out.mono ?_
  rintro e w1 ⟨rfl, rfl⟩
  go_wp2
  go_ret
  exact ⟨rfl, rfl⟩

/-- What next answers. -/
def Nexted (w : World) (p : List UInt8) (e : Ending) (w' : World) : Prop :=
  ((nextB p = none ∧ ∃ v, e = .returned (.tuple #[v, .bool false])) ∨ ∃ q g o c, nextB p = some q ∧ e = .returned (.tuple #[.slice (some ⟨g, o, none⟩) q.length c, .bool true]) ∧ BSA w' (some ⟨g, o, none⟩) c q) ∧ Below w.heap.size w w'

set_option maxRecDepth 100000 in
set_option maxHeartbeats 3200000 in
theorem next_any {w : World} (hT : Table w) {A : Option Addr} {c : Nat} {p : List UInt8} (hp : BSA w A c p) (hb : p.length ≤ 10000000) :
    Calls Tryd.prog 38 #[.slice A p.length c] w (Nexted w p) := by
  by_cases h8 : p.length < 8
  · have t1 : decide ((p.length : Int) < 8) = true := by simp; omega
    have H := hid (nextB_short h8)
    have B0 := hid (Below.refl w.heap.size w)
    clear hp
    go_enter Tryd.func38, Tryd.ntmps38
    go_wp2
    go_ret2
    exact ⟨.inl ⟨H.out, _, rfl⟩, B0.out⟩
  · have t1 : decide ((p.length : Int) < 8) = false := by simp; omega
    obtain ⟨g, o, rfl⟩ := hp.place (by omega)
    have hc1 := hp.1
    have hc2 := hp.2.1
    unfold maxLen at hc2
    obtain ⟨n, hn⟩ : ∃ n, n = p.length := ⟨_, rfl⟩
    have HN := hid hn
    rw [← hn] at hc1 hb t1 h8 ⊢
    have HP := hid hp
    have hT' := hid hT
    have B0 := hid (Below.refl w.heap.size w)
    clear hp hT hn
    go_enter Tryd.func38, Tryd.ntmps38
    go_wp2
    go_loopw [4, 14] (fun v i wr => ∃ k : Nat, k ≤ 4 ∧ i = .int .i64 k ∧ v = .int .i64 (readNat (p.take k) : Int) ∧ w = wr) (fun _ i _ => 4 - (intOf i).toNat)
    case atStart => exact ⟨0, Nat.zero_le _, rfl, rfl, rfl⟩
    case round =>
      obtain ⟨k, hk, rfl, rfl, rfl⟩ := hrel
      by_cases hlt : k < 4
      · have t2 : decide ((k : Int) < 4) = true := by simp; omega
        have hkp : k < p.length := by rw [← HN.out]; omega
        have ck := HP.out.at_ k hkp
        have e1 : readNat (p.take (k + 1)) = 256 * readNat (p.take k) + p[k].toNat := by rw [List.take_succ_eq_append_getElem hkp, readNat_append]
        have b1 := readNat_lt k (p.take k) (by rw [List.length_take]; omega)
        have b2 : 256 ^ k ≤ 256 ^ 3 := Nat.pow_le_pow_right (by omega) (by omega)
        obtain ⟨m, hm⟩ : ∃ m, m = readNat (p.take k) := ⟨_, rfl⟩
        obtain ⟨b, hb'⟩ : ∃ b, b = p[k].toNat := ⟨_, rfl⟩
        have hb2 : b < 256 := by rw [hb']; exact p[k].toNat_lt
        rw [← hm, ← hb'] at e1
        rw [← hm] at b1 ⊢
        rw [← hb'] at ck
        have hm2 : m < 16777216 := by have : 256 ^ 3 = 16777216 := by decide
                                      omega
        have OB := or_byte
        have E1 := hid e1
        clear hm hb' e1 b1 b2 hkp
        go_wp2
        go_roundw
        case rel => exact ⟨k + 1, by omega, by go_num, by rw [E1.out, Int.natCast_add, Int.natCast_mul]; rfl, trivial⟩
        case measure => simp [intOf]; omega
      · obtain rfl : k = 4 := by omega
        obtain ⟨m, hm⟩ : ∃ m, m = readNat (p.take 4) := ⟨_, rfl⟩
        have hm4 : m < 4294967296 := by
          have := readNat_lt 4 (p.take 4) (by rw [List.length_take, ← HN.out]; omega)
          rw [hm]; exact this
        rw [← hm]
        have HM := hid hm
        clear hm
        by_cases hbig : 1048576 < m
        · have t2 : decide ((1048576 : Int) < (m : Int)) = true := by simp; omega
          have H := hid (show nextB p = none by unfold nextB; rw [if_neg (by rw [← HN.out]; exact h8), ← HM.out, if_pos (.inl hbig)])
          go_wp2
          go_ret2
          exact ⟨.inl ⟨H.out, _, rfl⟩, B0.out⟩
        · have t2 : decide ((1048576 : Int) < (m : Int)) = false := by simp; omega
          by_cases hlong : n - 8 < m
          · have t3 : decide ((n : Int) - 4 - 4 < (m : Int)) = true := by simp; omega
            have H := hid (show nextB p = none by unfold nextB; rw [if_neg (by rw [← HN.out]; exact h8), ← HM.out, ← HN.out, if_pos (.inr hlong)])
            go_wp2
            go_ret2
            exact ⟨.inl ⟨H.out, _, rfl⟩, B0.out⟩
          · have t3 : decide ((n : Int) - 4 - 4 < (m : Int)) = false := by simp; omega
            have hnx : nextB p = if frameB ((p.drop 8).take m) = p.take (8 + m) then some ((p.drop 8).take m) else none := by
              unfold nextB
              rw [if_neg (by rw [← HN.out]; exact h8), ← HM.out, ← HN.out, if_neg (by omega)]
            by_cases hc8 : c = 8
            · subst hc8
              obtain ⟨q, hq⟩ : ∃ q, q = (p.drop 8).take m := ⟨_, rfl⟩
              have lq : q.length = m := by rw [hq, List.length_take, List.length_drop, ← HN.out]; omega
              have pq : BSA w (some ⟨g, o, none⟩) (0) q := by rw [show q = [] from List.eq_nil_of_length_eq_zero (by omega)]; exact ⟨by simp, by unfold maxLen; omega, (fun e => by cases e), fun ad e j hj => by simp at hj⟩
              rw [← hq] at hnx
              have HX := hid hnx
              have LQ := hid lq
              have H0 := frame_any hT'.out pq (by rw [lq]; omega)
              rw [lq] at H0
              have H := hid H0
              clear hnx hq lq H0
              go_wp2_with fail
              refine H.out.mono ?_
              rintro e w1 ⟨A1, c1, rfl, r1, b1⟩
              have lf : (frameB q).length = 8 + m := by rw [frameB_length, LQ.out]
              have H := hid (prefix_any HN.out.symm lf (HP.out.below b1) r1.bsa (by omega) (by omega))
              rw [lf]
              have pq1 := pq.below b1
              clear r1 lf
              go_wp2_with fail
              refine H.out.mono ?_
              rintro e w2 ⟨rfl, rfl⟩
              by_cases hfr : p.take (8 + m) = frameB q
              · have hd : decide (p.take (8 + m) = frameB q) = true := by simp [hfr]
                rw [hd]
                have HX' := hid (show nextB p = some q by rw [HX.out, if_pos hfr.symm])
                have LQ' := hid (show Value.slice (some ⟨g, o, none⟩) m (0) = Value.slice (some ⟨g, o, none⟩) q.length (0) by rw [LQ.out])
                clear hfr hd
                go_wp2
                go_ret2
                exact ⟨.inr ⟨q, g, o, 0, HX'.out, by rw [← LQ'.out]; rfl, pq1⟩, b1⟩
              · have hd : decide (p.take (8 + m) = frameB q) = false := by simp [hfr]
                rw [hd]
                have HX' := hid (show nextB p = none by rw [HX.out, if_neg (fun e => hfr e.symm)])
                clear hfr hd
                go_wp2
                go_ret2
                exact ⟨.inl ⟨HX'.out, _, rfl⟩, b1⟩
            · skip
              obtain ⟨q, hq⟩ : ∃ q, q = (p.drop 8).take m := ⟨_, rfl⟩
              have lq : q.length = m := by rw [hq, List.length_take, List.length_drop, ← HN.out]; omega
              have pq : BSA w (some ⟨g, o + 8, none⟩) (c - 8) q := by rw [hq]; exact (HP.out.cut 8 (by rw [← HN.out]; omega)).head m
              rw [← hq] at hnx
              have HX := hid hnx
              have LQ := hid lq
              have H0 := frame_any hT'.out pq (by rw [lq]; omega)
              rw [lq] at H0
              have H := hid H0
              clear hnx hq lq H0
              go_wp2_with fail
              refine H.out.mono ?_
              rintro e w1 ⟨A1, c1, rfl, r1, b1⟩
              have lf : (frameB q).length = 8 + m := by rw [frameB_length, LQ.out]
              have H := hid (prefix_any HN.out.symm lf (HP.out.below b1) r1.bsa (by omega) (by omega))
              rw [lf]
              have pq1 := pq.below b1
              clear r1 lf
              go_wp2_with fail
              refine H.out.mono ?_
              rintro e w2 ⟨rfl, rfl⟩
              by_cases hfr : p.take (8 + m) = frameB q
              · have hd : decide (p.take (8 + m) = frameB q) = true := by simp [hfr]
                rw [hd]
                have HX' := hid (show nextB p = some q by rw [HX.out, if_pos hfr.symm])
                have LQ' := hid (show Value.slice (some ⟨g, o + 8, none⟩) m (c - 8) = Value.slice (some ⟨g, o + 8, none⟩) q.length (c - 8) by rw [LQ.out])
                clear hfr hd
                go_wp2
                go_ret2
                exact ⟨.inr ⟨q, g, o + 8, c - 8, HX'.out, by rw [← LQ'.out]; rfl, pq1⟩, b1⟩
              · have hd : decide (p.take (8 + m) = frameB q) = false := by simp [hfr]
                rw [hd]
                have HX' := hid (show nextB p = none by rw [HX.out, if_neg (fun e => hfr e.symm)])
                clear hfr hd
                go_wp2
                go_ret2
                exact ⟨.inl ⟨HX'.out, _, rfl⟩, b1⟩
end Go.Proofs.YtponofojildbmaaDoor
