/- ChainLast: the greatest number stays known, whatever is let go; below it nothing may be put. -/
import Derived.Test.YtlfimleciemobabChainE
import Derived.Deep.DeepCutAuto
import Derived.Deep.CutBlock
set_option linter.unusedVariables false
set_option linter.unusedSimpArgs false
namespace Go.Proofs.Ytlfimleciemobab
open Go.RowKit PrintLast

theorem cnt_all {vs : List Ver} {x : Int} (h : ∀ v ∈ vs, v.at_ ≤ x) : cnt vs x = vs.length := by
  induction vs with
  | nil => rfl
  | cons v vs ih =>
    have h1 := h v (by simp)
    have h2 := ih (fun u hu => h u (by simp [hu]))
    unfold cnt at *
    rw [List.takeWhile_cons]
    simp only [h1, decide_true, if_true, List.length_cons, h2]

/-- The newest one, at its own number and above. -/
theorem got_last {vs : List Ver} {x : Int} {v : Ver} (h : ∀ u ∈ vs ++ [v], u.at_ ≤ x) : got (vs ++ [v]) x = if v.gone = true then ([], false) else (v.row, true) := by
  unfold got
  rw [cnt_all h]
  simp
theorem trim_last {vs : List Ver} {x : Int} {v : Ver} (h : ∀ u ∈ vs ++ [v], u.at_ ≤ x) : (vs ++ [v]).drop (trimN (vs ++ [v]) x) = if v.gone = true then [] else [v] := by
  unfold trimN
  rw [cnt_all h]
  simp only [List.length_append, List.length_cons, List.length_nil, Nat.zero_add, Nat.add_sub_cancel]
  rw [List.getElem?_append_right (Nat.le_refl _)]
  simp only [Nat.sub_self, List.getElem?_cons_zero, Nat.add_eq_zero_iff, Nat.one_ne_zero, and_false, if_false]
  split
  · exact List.drop_eq_nil_of_le (by simp)
  · simp

/-- What a round asks of the versions behind it. -/
theorem round_last {vs : List Ver} {last x : Int} {row : List UInt8} {g tr : Bool} {vs' : List Ver} (hg : Good vs last) (hx : last < x) (hv : vs' = if tr then (vs ++ [(⟨x, row, g⟩ : Ver)]).drop (trimN (vs ++ [(⟨x, row, g⟩ : Ver)]) (x + 1)) else vs ++ [(⟨x, row, g⟩ : Ver)]) : (got vs' x).2 = !g := by
  have h1 : ∀ u ∈ vs ++ [(⟨x, row, g⟩ : Ver)], u.at_ ≤ x := fun u hu => by
    simp only [List.mem_append, List.mem_singleton] at hu
    rcases hu with hu | rfl
    · have := (hg.2.1 u hu).1; omega
    · exact Int.le_refl _
  have h2 : ∀ u ∈ vs ++ [(⟨x, row, g⟩ : Ver)], u.at_ ≤ x + 1 := fun u hu => by have := h1 u hu; omega
  cases tr with
  | true =>
    rw [if_pos rfl, trim_last h2] at hv
    subst hv
    cases g with
    | true => rfl
    | false =>
      have := got_last (vs := []) (x := x) (v := ⟨x, row, false⟩) (by simp)
      simp at this
      simp [this]
  | false =>
    rw [if_neg (by simp)] at hv
    subst hv
    rw [got_last h1]
    cases g <;> rfl

set_option maxRecDepth 100000 in
set_option maxHeartbeats 1600000 in
theorem last_walk {w : World} {A A' : Option Addr} {c c' : Nat} {st row : List UInt8} (hs : BSA w A c st) (hr : BSA w A' c' row) :
    Calls Try.prog 8 #[.slice A st.length c, .slice A' row.length c'] w fun e w' => e = .returned (.bool true) ∧ Below w.heap.size w w' := by
  by_cases h1 : 40 < st.length
  · have t1 : decide ((40 : Int) < (st.length : Int)) = true := by simp; omega
    go_enter Try.func8, Try.ntmps8
    go_wp2_with fail
    refine gone_any.mono ?_
    rintro e w1 ⟨rfl, hb1⟩
    go_wp2_with fail
    refine gone_any.mono ?_
    rintro e w2 ⟨rfl, hb2⟩
    go_wp2
    go_ret
    exact ⟨rfl, below_then hb1 hb2⟩
  · by_cases h2 : 20 < row.length
    · have t1 : decide ((40 : Int) < (st.length : Int)) = false := by simp; omega
      have t2 : decide ((20 : Int) < (row.length : Int)) = true := by simp; omega
      go_enter Try.func8, Try.ntmps8
      go_wp2_with fail
      refine gone_any.mono ?_
      rintro e w1 ⟨rfl, hb1⟩
      go_wp2_with fail
      refine gone_any.mono ?_
      rintro e w2 ⟨rfl, hb2⟩
      go_wp2
      go_ret
      exact ⟨rfl, below_then hb1 hb2⟩
    · have t1 : decide ((40 : Int) < (st.length : Int)) = false := by simp; omega
      have t2 : decide ((20 : Int) < (row.length : Int)) = false := by simp; omega
      go_enter Try.func8, Try.ntmps8
      go_wp2_with fail
      refine gone_any.mono ?_
      rintro e w1 ⟨rfl, b1⟩
      have s1 := b1.size
      go_wp2_with fail
      refine (new_B (B := w.heap.size) s1).mono ?_
      rintro e w2 ⟨b, rfl, d2, b2⟩
      have hb2 := below_then b1 b2
      clear b1 b2
      go_wp2
      go_loopw [6, 7] (fun a i wr => ∃ k : Nat, ∃ (n : Nat) (vs : List Ver), k ≤ st.length ∧ i = .int .i64 k ∧ a = .int .i64 n ∧ n ≤ 5 * k ∧ Below w.heap.size w wr ∧ ChainB wr w.heap.size b vs n ∧ Good vs n ∧ vs.length ≤ k) (fun _ i _ => st.length - (intOf i).toNat)
      case atStart => exact ⟨0, 0, [], Nat.zero_le _, rfl, rfl, Nat.le_refl _, hb2, d2, Good.nil, Nat.le_refl _⟩
      case round =>
        clear hb2 d2
        obtain ⟨k, n, vs, hk, rfl, rfl, hnk, b3, d3, hg, hvk⟩ := hrel
        have s3 := b3.size
        by_cases hlt : k < st.length
        · obtain ⟨ad, rfl, ca⟩ := (hs.below b3).cell k hlt
          have HG := hid hg
          obtain ⟨m, hm⟩ : ∃ m : Nat, m = n + 1 + st[k].toNat % 5 := ⟨_, rfl⟩
          have hm5 : st[k].toNat % 5 < 5 := Nat.mod_lt _ (by omega)
          have em : (n : Int) + (1 + (st[k].toNat : Int) % 5) = (m : Int) := by omega
          have hnm : (n : Int) < (m : Int) := by omega
          have hmk : m ≤ 5 * (k + 1) := by omega
          have cw := (hs.cell k hlt)
          obtain ⟨ad', ead, cw⟩ := cw
          cases ead
          by_cases h128 : (128 : Int) ≤ (st[k].toNat : Int)
          · have hgd : decide ((128 : Int) ≤ (st[k].toNat : Int)) = true := by simp; omega
            have hgd' : decide ((st[k].toNat : Int) < 128) = false := by simp; omega
            have HP := hid (put_B (B := w.heap.size) (g := true) s3 d3 hnm (hr.below b3) (by omega) (by omega))
            have HR := hid (fun (tr : Bool) vs' => round_last (row := row) (g := true) (tr := tr) (vs' := vs') hg hnm)
            have HG2 := hid (hg.put (row := row) (g := true) hnm (by omega) (by omega))
            have hr3 := hr.below b3
            clear hm hm5 hg d3
            go_wp2_with fail
            refine HP.out.mono ?_
            rintro e w4 ⟨rfl, d4, b4⟩
            have s4 := b4.size
            have b34 := b3.trans b4
            go_wp2_with fail
            refine (last_B d4).mono ?_
            rintro e w5 ⟨rfl, rfl⟩
            go_wp2_with fail
            refine (put_noB d4 (Int.le_refl _)).mono ?_
            rintro e w5 ⟨rfl, rfl⟩
            have c4 := b34.cell (p := ad.add k) (by have := World.block_lt_of_cell? _ _ cw; omega)
            rw [cw] at c4
            clear b3 b4 HP hr3 ca
            go_upto_if 67 with fail
            go_cut [] (fun wx => ∃ vs', ChainB wx w.heap.size b vs' m ∧ Good vs' m ∧ (got vs' m).2 = !true ∧ vs'.length ≤ k + 1 ∧ Below w.heap.size w wx)
            case first =>
              by_cases h3 : (st[k].toNat : Int) % 3 = 0
              · have ht3 : ((st[k].toNat : Int) % 3 == 0) = true := by simp [h3]
                have T := hid (trim_B (x := (m : Int) + 1) (by omega) d4 HG2.out)
                clear h3
                go_wp2_with fail
                refine T.out.mono ?_
                rintro e w6 ⟨rfl, d6, b6⟩
                go_wp2_with fail
                go_meet
                exact ⟨_, d6, HG2.out.drop _, HR.out true _ rfl, by simp; omega, b34.trans b6⟩
              · have ht3 : ((st[k].toNat : Int) % 3 == 0) = false := by simp [h3]
                clear h3
                go_wp2_with fail
                go_meet
                exact ⟨_, d4, HG2.out, HR.out false _ rfl, by simp; omega, b34⟩
            case rest =>
              obtain ⟨vs', d6, hg6, hgot, hlen, b6⟩ := hcut
              generalize wc = w6 at *
              have s6 := b6.size
              have G := get_B d6 hg6 m
              obtain ⟨R1, R2, hR⟩ : ∃ R1 R2, got vs' m = (R1, R2) := ⟨_, _, rfl⟩
              rw [hR] at G hgot
              simp only at hgot
              subst hgot
              have HGet := hid G
              have HG6 := hid hg6
              clear hR G HR HG2 c4 d4 b34 hg6
              go_wp2_with fail
              refine HGet.out.mono ?_
              rintro e w7 ⟨A7, c7, rfl, m7⟩
              have s7 := m7.2.2.size
              have d7 := d6.below m7.2.2
              have b7 := b6.trans (m7.2.2.mono s6)
              have c7' := b7.cell (p := ad.add k) (by have := World.block_lt_of_cell? _ _ cw; omega)
              rw [cw] at c7'
              clear d6 b6 m7
              go_wp2_with fail
              refine (last_B d7).mono ?_
              rintro e w8 ⟨rfl, rfl⟩
              go_wp2
              go_roundw
              case rel => exact ⟨k + 1, m, vs', by omega, by go_num, rfl, hmk, b7, d7, HG6.out, hlen⟩
              case measure => simp [intOf]; omega
          · have hgd : decide ((128 : Int) ≤ (st[k].toNat : Int)) = false := by simp; omega
            have hgd' : decide ((st[k].toNat : Int) < 128) = true := by simp; omega
            have HP := hid (put_B (B := w.heap.size) (g := false) s3 d3 hnm (hr.below b3) (by omega) (by omega))
            have HR := hid (fun (tr : Bool) vs' => round_last (row := row) (g := false) (tr := tr) (vs' := vs') hg hnm)
            have HG2 := hid (hg.put (row := row) (g := false) hnm (by omega) (by omega))
            have hr3 := hr.below b3
            clear hm hm5 hg d3
            go_wp2_with fail
            refine HP.out.mono ?_
            rintro e w4 ⟨rfl, d4, b4⟩
            have s4 := b4.size
            have b34 := b3.trans b4
            go_wp2_with fail
            refine (last_B d4).mono ?_
            rintro e w5 ⟨rfl, rfl⟩
            go_wp2_with fail
            refine (put_noB d4 (Int.le_refl _)).mono ?_
            rintro e w5 ⟨rfl, rfl⟩
            have c4 := b34.cell (p := ad.add k) (by have := World.block_lt_of_cell? _ _ cw; omega)
            rw [cw] at c4
            clear b3 b4 HP hr3 ca
            go_upto_if 67 with fail
            go_cut [] (fun wx => ∃ vs', ChainB wx w.heap.size b vs' m ∧ Good vs' m ∧ (got vs' m).2 = !false ∧ vs'.length ≤ k + 1 ∧ Below w.heap.size w wx)
            case first =>
              by_cases h3 : (st[k].toNat : Int) % 3 = 0
              · have ht3 : ((st[k].toNat : Int) % 3 == 0) = true := by simp [h3]
                have T := hid (trim_B (x := (m : Int) + 1) (by omega) d4 HG2.out)
                clear h3
                go_wp2_with fail
                refine T.out.mono ?_
                rintro e w6 ⟨rfl, d6, b6⟩
                go_wp2_with fail
                go_meet
                exact ⟨_, d6, HG2.out.drop _, HR.out true _ rfl, by simp; omega, b34.trans b6⟩
              · have ht3 : ((st[k].toNat : Int) % 3 == 0) = false := by simp [h3]
                clear h3
                go_wp2_with fail
                go_meet
                exact ⟨_, d4, HG2.out, HR.out false _ rfl, by simp; omega, b34⟩
            case rest =>
              obtain ⟨vs', d6, hg6, hgot, hlen, b6⟩ := hcut
              generalize wc = w6 at *
              have s6 := b6.size
              have G := get_B d6 hg6 m
              obtain ⟨R1, R2, hR⟩ : ∃ R1 R2, got vs' m = (R1, R2) := ⟨_, _, rfl⟩
              rw [hR] at G hgot
              simp only at hgot
              subst hgot
              have HGet := hid G
              have HG6 := hid hg6
              clear hR G HR HG2 c4 d4 b34 hg6
              go_wp2_with fail
              refine HGet.out.mono ?_
              rintro e w7 ⟨A7, c7, rfl, m7⟩
              have s7 := m7.2.2.size
              have d7 := d6.below m7.2.2
              have b7 := b6.trans (m7.2.2.mono s6)
              have c7' := b7.cell (p := ad.add k) (by have := World.block_lt_of_cell? _ _ cw; omega)
              rw [cw] at c7'
              clear d6 b6 m7
              go_wp2_with fail
              refine (last_B d7).mono ?_
              rintro e w8 ⟨rfl, rfl⟩
              go_wp2
              go_roundw
              case rel => exact ⟨k + 1, m, vs', by omega, by go_num, rfl, hmk, b7, d7, HG6.out, hlen⟩
              case measure => simp [intOf]; omega
        · go_wp2_with fail
          refine (last_B d3).mono ?_
          rintro e w4 ⟨rfl, rfl⟩
          go_wp2
          go_ret
          exact ⟨rfl, b3⟩
end Go.Proofs.Ytlfimleciemobab
