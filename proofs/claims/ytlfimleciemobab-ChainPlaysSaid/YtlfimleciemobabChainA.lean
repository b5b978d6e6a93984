/- A chain in memory, its versions; sort.Search, and where a number is seen. -/
import Derived.Test.YtlfimleciemobabClone
import Derived.Test.YtlfimleciemobabRef01
import Derived.IntWalk
set_option linter.unusedVariables false
set_option linter.unusedSimpArgs false
namespace Go.Proofs.Ytlfimleciemobab
open Go.RowKit PrintLast

structure Ver where
  at_ : Int
  row : List UInt8
  gone : Bool

/-- The versions vs stand in the cells cs; their rows lie in F. -/
def VersAt (w : World) (F : Nat → Prop) : List Ver → List Value → Prop
  | [], cs => cs = []
  | v :: vs, cs => ∃ R c cs', cs = .int .i64 v.at_ :: .slice R v.row.length c :: .bool v.gone :: cs' ∧ BSA w R c v.row ∧ (∀ ad, R = some ad → F ad.block) ∧ VersAt w F vs cs'

theorem VersAt.length {w : World} {F : Nat → Prop} : ∀ {vs : List Ver} {cs : List Value}, VersAt w F vs cs → cs.length = vs.length * 3
  | [], cs, h => by simp [VersAt] at h; simp [h]
  | v :: vs, cs, h => by
    obtain ⟨R, c, cs', rfl, _, _, h'⟩ := h
    have := VersAt.length h'
    simp only [List.length_cons]
    omega
theorem VersAt.get {w : World} {F : Nat → Prop} : ∀ {vs : List Ver} {cs : List Value}, VersAt w F vs cs → ∀ j (hj : j < vs.length), ∃ R c, cs[j * 3]? = some (.int .i64 vs[j].at_) ∧ cs[j * 3 + 1]? = some (.slice R vs[j].row.length c) ∧ cs[j * 3 + 2]? = some (.bool vs[j].gone) ∧ BSA w R c vs[j].row ∧ (∀ ad, R = some ad → F ad.block)
  | v :: vs, cs, h, j, hj => by
    obtain ⟨R, c, cs', rfl, hb, hF, h'⟩ := h
    cases j with
    | zero => exact ⟨R, c, by simp, by simp, by simp, hb, hF⟩
    | succ j =>
      obtain ⟨R', c', h1, h2, h3, h4⟩ := VersAt.get h' j (by simpa using hj)
      refine ⟨R', c', ?_, ?_, ?_, h4⟩
      · rw [show (j + 1) * 3 = j * 3 + 3 by omega]; simpa using h1
      · rw [show (j + 1) * 3 + 1 = j * 3 + 1 + 3 by omega]; simpa using h2
      · rw [show (j + 1) * 3 + 2 = j * 3 + 2 + 3 by omega]; simpa using h3
theorem VersAt.mono {w w' : World} {F F' : Nat → Prop} (hF : ∀ k, F k → F' k) (hb : ∀ R c row, BSA w R c row → (∀ ad, R = some ad → F ad.block) → BSA w' R c row) : ∀ {vs : List Ver} {cs : List Value}, VersAt w F vs cs → VersAt w' F' vs cs
  | [], _, h => h
  | v :: vs, cs, h => by
    obtain ⟨R, c, cs', rfl, h1, h2, h'⟩ := h
    exact ⟨R, c, cs', rfl, hb _ _ _ h1 h2, fun ad e => hF _ (h2 ad e), VersAt.mono hF hb h'⟩
theorem VersAt.append {w : World} {F : Nat → Prop} : ∀ {vs us : List Ver} {cs ds : List Value}, VersAt w F vs cs → VersAt w F us ds → VersAt w F (vs ++ us) (cs ++ ds)
  | [], us, cs, ds, h, k => by simp [VersAt] at h; subst h; exact k
  | v :: vs, us, cs, ds, h, k => by
    obtain ⟨R, c, cs', rfl, h1, h2, h'⟩ := h
    exact ⟨R, c, cs' ++ ds, by simp, h1, h2, VersAt.append h' k⟩
theorem VersAt.drop {w : World} {F : Nat → Prop} : ∀ (j : Nat) {vs : List Ver} {cs : List Value}, VersAt w F vs cs → VersAt w F (vs.drop j) (cs.drop (j * 3))
  | 0, _, _, h => by simpa using h
  | j + 1, [], cs, h => by simp [VersAt] at h; subst h; simp [VersAt]
  | j + 1, v :: vs, cs, h => by
    obtain ⟨R, c, cs', rfl, h1, h2, h'⟩ := h
    have := VersAt.drop j h'
    rw [show (j + 1) * 3 = j * 3 + 3 by omega]
    simpa using this
theorem VersAt.one {w : World} {F : Nat → Prop} : ∀ {vs : List Ver} {cs : List Value}, VersAt w F vs cs → ∀ u ∈ cs, u.oneCell' = true
  | [], cs, h => by simp [VersAt] at h; subst h; simp
  | v :: vs, cs, h => by
    obtain ⟨R, c, cs', rfl, _, _, h'⟩ := h
    intro u hu
    simp only [List.mem_cons] at hu
    rcases hu with rfl | rfl | rfl | hu
    · rfl
    · rfl
    · rfl
    · exact VersAt.one h' u hu

/-- The chain of the versions vs, with the greatest number last, lies at block b; all its blocks lie in F. -/
def ChainAt (w : World) (F : Nat → Prop) (b : Nat) (vs : List Ver) (last : Int) : Prop :=
  F b ∧ (∀ k, F k → k < w.heap.size) ∧ ∃ A c cs, w.heap[b]? = some (.cells #[.slice A vs.length c, .int .i64 last] 54 (0, 0)) ∧ w.ownsRow 0 57 3 (.slice A vs.length c) vs.length cs ∧ (∀ k, (Value.slice A vs.length c).ownBlock = some k → F k ∧ k ≠ b) ∧ VersAt w (fun k => F k ∧ k ≠ b ∧ (Value.slice A vs.length c).ownBlock ≠ some k) vs cs

theorem ChainAt.keeps {S : Nat → Prop} {w w' : World} {F : Nat → Prop} {b : Nat} {vs : List Ver} {last : Int} (h : ChainAt w F b vs last) (hk : Keeps S w w') (hn : ∀ k, F k → ¬ S k) : ChainAt w' F b vs last := by
  obtain ⟨h1, h2, A, c, cs, h3, h4, h5, h6⟩ := h
  exact ⟨h1, fun k e => Nat.lt_of_lt_of_le (h2 k e) hk.size, A, c, cs, hk.heap h3 (hn b h1), hk.own h4 (fun k e => hn k (h5 k e).1), h5, h6.mono (fun _ e => e) (fun R c row hb hF => hb.keeps hk (fun ad e => hn _ (hF ad e).1))⟩
theorem ChainAt.below {w w' : World} {F : Nat → Prop} {b : Nat} {vs : List Ver} {last : Int} (h : ChainAt w F b vs last) (hb : Below w.heap.size w w') : ChainAt w' F b vs last :=
  h.keeps (S := fun _ => False) (Keeps.of_below hb) (fun _ _ e => e)

/-- What is seen of versions: how many stand at or below a number. -/
def cnt (vs : List Ver) (x : Int) : Nat := (vs.takeWhile fun v => decide (v.at_ ≤ x)).length
def Rising (vs : List Ver) : Prop := vs.Pairwise fun a b => a.at_ < b.at_

set_option maxHeartbeats 800000 in
theorem search_any {w : World} {n : Nat} (K : Nat) (fn : Func) (hK : Try.prog.funcs[K]? = some fn) (hname : (fn.name == "runtime.NumGoroutine") = false) (hbody : fn.body.isSome = true) (cb : Array Value) (p : Nat → Bool) (hn : n < 4611686018427387904)
    (hf : ∀ (W : World), Below w.heap.size w W → ∀ i : Nat, i < n → Calls Try.prog K (#[.int .i64 i] ++ cb) W fun e W' => e = .returned (.bool (p i)) ∧ Below W.heap.size W W')
    (hmono : ∀ a b, a ≤ b → b < n → p a = true → p b = true) :
    Calls Try.prog 24 #[.int .i64 n, .func (.func K) #[] cb] w fun e w' => ∃ k : Nat, e = .returned (.int .i64 k) ∧ k ≤ n ∧ (∀ j, j < k → p j = false) ∧ (∀ j, k ≤ j → j < n → p j = true) ∧ Below w.heap.size w w' := by
  have HF := hid hf
  have HM := hid hmono
  have eg := fun (w : World) (i : Int) => enters_ hK hname hbody (#[.int .i64 i] ++ cb) w
  clear hf hmono
  go_enter Try.func24, Try.ntmps24
  go_wp2
  go_loopw [5, 6] (fun a c wr => ∃ i j : Nat, i ≤ j ∧ j ≤ n ∧ a = .int .i64 i ∧ c = .int .i64 j ∧ (∀ t, t < i → p t = false) ∧ (∀ t, j ≤ t → t < n → p t = true) ∧ Below w.heap.size w wr) (fun a c _ => (intOf c).toNat - (intOf a).toNat)
  case atStart => exact ⟨0, n, Nat.zero_le _, Nat.le_refl _, rfl, rfl, fun t ht => by omega, fun t h1 h2 => by omega, Below.refl _ _⟩
  case round =>
    obtain ⟨i, j, hij, hjn, rfl, rfl, h1, h2, hb⟩ := hrel
    have H1 := hid h1
    have H2 := hid h2
    clear h1 h2
    by_cases hlt : i < j
    · obtain ⟨h, hh⟩ : ∃ h : Nat, h = (i + j) / 2 := ⟨_, rfl⟩
      have hc : ((i : Int) + (j : Int)) / 2 = (h : Int) := by omega
      have hi : i ≤ h ∧ h < j := by omega
      have C := hid (HF.out wr hb h (by omega))
      clear hh
      obtain ⟨hi1, hi2⟩ := hi
      go_wp2_with fail
      clear hc
      refine C.out.mono ?_
      rintro e w1 ⟨rfl, b1⟩
      have hb1 := below_then hb b1
      have P0' : p h = false → ∀ t, t < h + 1 → p t = false := by
        intro hp t ht
        cases e : p t with
        | false => rfl
        | true =>
          have := HM.out t h (by omega) (by omega) e
          rw [hp] at this
          cases this
      have P1' : p h = true → ∀ t, h ≤ t → t < n → p t = true := fun hp t h1 h2 => HM.out h t h1 h2 hp
      have P0 := hid P0'
      have P1 := hid P1'
      clear P0' P1'
      cases hp : p h with
      | true =>
        have Q := hid (P1.out hp)
        clear hp P0 P1
        go_wp2
        go_roundw
        case rel => exact ⟨i, h, hi1, by omega, rfl, rfl, H1.out, Q.out, hb1⟩
        case measure => simp [intOf]; omega
      | false =>
        have Q := hid (P0.out hp)
        clear hp P0 P1
        go_wp2
        go_roundw
        case rel => exact ⟨h + 1, j, by omega, by omega, by go_num, rfl, Q.out, H2.out, hb1⟩
        case measure => simp [intOf]; omega
    · obtain rfl : i = j := by omega
      go_wp2
      go_ret
      exact ⟨i, rfl, hjn, H1.out, H2.out, hb⟩

theorem cnt_le (vs : List Ver) (x : Int) : cnt vs x ≤ vs.length := (List.takeWhile_sublist _).length_le
theorem cnt_lt : ∀ {vs : List Ver} {x : Int} {j : Nat} (hj : j < vs.length), j < cnt vs x → vs[j].at_ ≤ x
  | v :: vs, x, j, hj, h => by
    unfold cnt at h
    rw [List.takeWhile_cons] at h
    by_cases hv : v.at_ ≤ x
    · simp only [hv, decide_true, if_true, List.length_cons] at h
      cases j with
      | zero => exact hv
      | succ j => exact cnt_lt (vs := vs) (by simpa using hj) (show j < cnt vs x by unfold cnt; omega)
    · simp [hv] at h
theorem cnt_ge : ∀ {vs : List Ver} {x : Int} {j : Nat} (hr : Rising vs) (hj : j < vs.length), cnt vs x ≤ j → x < vs[j].at_
  | v :: vs, x, j, hr, hj, h => by
    unfold cnt at h
    rw [List.takeWhile_cons] at h
    have hr' := List.pairwise_cons.1 hr
    by_cases hv : v.at_ ≤ x
    · simp only [hv, decide_true, if_true, List.length_cons] at h
      cases j with
      | zero => omega
      | succ j => exact cnt_ge (vs := vs) hr'.2 (by simpa using hj) (show cnt vs x ≤ j by unfold cnt; omega)
    · cases j with
      | zero => simp only [List.getElem_cons_zero]; omega
      | succ j =>
        have := hr'.1 (vs[j]'(by simpa using hj)) (List.getElem_mem _)
        simp only [List.getElem_cons_succ]
        omega
/-- The place that the search finds is the count. -/
theorem cnt_eq {vs : List Ver} {x : Int} {k : Nat} (hr : Rising vs) (hk : k ≤ vs.length) (h1 : ∀ j (hj : j < vs.length), j < k → vs[j].at_ ≤ x) (h2 : ∀ j (hj : j < vs.length), k ≤ j → x < vs[j].at_) : k = cnt vs x := by
  have hc := cnt_le vs x
  rcases Nat.lt_trichotomy k (cnt vs x) with h | h | h
  · have := h2 k (by omega) (Nat.le_refl _)
    have := cnt_lt (show k < vs.length by omega) h
    omega
  · exact h
  · have := h1 (cnt vs x) (by omega) h
    have := cnt_ge hr (show cnt vs x < vs.length by omega) (Nat.le_refl _)
    omega

set_option maxHeartbeats 800000 in
theorem seen1_any {w : World} {F : Nat → Prop} {b B0 B1 : Nat} {vs : List Ver} {last x : Int} {t0 t1 : TypeId} (h : ChainAt w F b vs last) (h0 : w.heap[B0]? = some (.cells #[.pointer (some ⟨b, 0, none⟩)] t0 (0, 0))) (h1 : w.heap[B1]? = some (.cells #[.int .i64 x] t1 (0, 0))) (i : Nat) (hi : i < vs.length) :
    Calls Try.prog 25 #[.int .i64 i, .pointer (some ⟨B0, 0, none⟩), .pointer (some ⟨B1, 0, none⟩)] w fun e w' => e = .returned (.bool (decide (x < vs[i].at_))) ∧ Below w.heap.size w w' := by
  obtain ⟨_, _, A, c, cs, g1, g2, g3, g4⟩ := h
  obtain ⟨R, cR, e0, _⟩ := g4.get i hi
  have hle : vs.length ≤ c ∧ c ≤ maxLen := by
    rcases g2.2 with ⟨_, h0⟩ | ⟨g, cap, cur, e, _, _, h1, h2, _⟩
    · omega
    · cases e; exact ⟨h1, h2⟩
  obtain ⟨hle1, hle2⟩ := hle
  unfold maxLen at hle2
  have hA : ∃ g, A = some ⟨g, 0, none⟩ := by
    obtain ⟨g, cap, e, _⟩ := g2.form (by omega)
    cases e
    exact ⟨g, rfl⟩
  obtain ⟨g, rfl⟩ := hA
  have ca : w.cell? ⟨g, i * 3, none⟩ = some (.int .i64 vs[i].at_) := by
    have := g2.cells (g := g) rfl (i * 3) _ e0
    rw [add_plain] at this; exact this
  have c0 := cell_at g1 (i := 0) (v := .slice (some ⟨g, 0, none⟩) vs.length c) rfl
  have d0 := cell_of_one h0
  have d1 := cell_of_one h1
  clear g1 g2 g3 g4 e0 h0 h1
  go_enter Try.func25, Try.ntmps25
  go_wp2
  refine start_ (n := 11) (S := fun w' => w'.cell? ⟨B0, 0, none⟩ = some (.pointer (some ⟨b, 0, none⟩)) ∧ w'.cell? ⟨B1, 0, none⟩ = some (.int .i64 x) ∧ w'.cell? ⟨b, 0, none⟩ = some (.slice (some ⟨g, 0, none⟩) vs.length c) ∧ w'.cell? ⟨g, i * 3, none⟩ = some (.int .i64 vs[i].at_)) (ds := []) #[false, false, false, false, false, false, false, false, false, false, false] (by kernel_rfl) rfl rfl ⟨d0, d1, c0, ca⟩ (fun hHeld => ?_)
  refine pure_ (i := 4) (N := some 9) (v := ?_) (a' := ?_) #[false, false, false, false, true, false, false, false, false, false, false] rfl rfl (by kernel_rfl) (fun _ _ _ h => h) (Or.inl ⟨by rfl, ?_⟩) ?_ ?_
  rotate_left
  · intro w'
    go_simp
    with_reducible rfl
  rotate_left
  · simp only [Act.put, List.setIfInBounds_toArray, List.set_cons_zero, List.set_cons_succ, i64_w, i32_w]
    rfl
  refine take_ (i := 0) (N := some 5) (v := ?_) (a' := ?_) #[true, false, false, false, true, false, false, false, false, false, false] rfl rfl (by kernel_rfl) (fun _ _ _ h => h) (Or.inl ⟨by rfl, ?_⟩) hHeld ?_ ?_
  rotate_left
  · rintro w' ⟨s0, s1, s2, s3⟩
    go_simp
    with_reducible rfl
  rotate_left
  · simp only [Act.put, List.setIfInBounds_toArray, List.set_cons_zero, List.set_cons_succ, i64_w, i32_w]
    rfl
  refine pure_ (i := 1) (N := some 6) (v := ?_) (a' := ?_) #[true, true, false, false, true, false, false, false, false, false, false] rfl rfl (by kernel_rfl) (fun _ _ _ h => h) (Or.inl ⟨by rfl, ?_⟩) ?_ ?_
  rotate_left
  · intro w'
    go_simp
    with_reducible rfl
  rotate_left
  · simp only [Act.put, List.setIfInBounds_toArray, List.set_cons_zero, List.set_cons_succ, i64_w, i32_w]
    rfl
  refine pure_ (i := 2) (N := some 7) (v := ?_) (a' := ?_) #[true, true, true, false, true, false, false, false, false, false, false] rfl rfl (by kernel_rfl) (fun _ _ _ h => h) (Or.inl ⟨by rfl, ?_⟩) ?_ ?_
  rotate_left
  · intro w'
    go_simp
    with_reducible rfl
  rotate_left
  · simp only [Act.put, List.setIfInBounds_toArray, List.set_cons_zero, List.set_cons_succ, i64_w, i32_w]
    rfl
  refine take_ (i := 3) (N := some 8) (v := ?_) (a' := ?_) #[true, true, true, true, true, false, false, false, false, false, false] rfl rfl (by kernel_rfl) (fun _ _ _ h => h) (Or.inl ⟨by rfl, ?_⟩) hHeld ?_ ?_
  rotate_left
  · rintro w' ⟨s0, s1, s2, s3⟩
    go_simp
    with_reducible rfl
  rotate_left
  · simp only [Act.put, List.setIfInBounds_toArray, List.set_cons_zero, List.set_cons_succ, i64_w, i32_w]
    rfl
  refine pure_ (i := 5) (N := some 10) (v := ?_) (a' := ?_) #[true, true, true, true, true, true, false, false, false, false, false] rfl rfl (by kernel_rfl) (fun _ _ _ h => h) (Or.inl ⟨by rfl, ?_⟩) ?_ ?_
  rotate_left
  · intro w'
    go_simp
    with_reducible rfl
  rotate_left
  · simp only [Act.put, List.setIfInBounds_toArray, List.set_cons_zero, List.set_cons_succ, i64_w, i32_w]
    rfl
  refine pure_ (i := 6) (N := some 11) (v := ?_) (a' := ?_) #[true, true, true, true, true, true, true, false, false, false, false] rfl rfl (by kernel_rfl) (fun _ _ _ h => h) (Or.inl ⟨by rfl, ?_⟩) ?_ ?_
  rotate_left
  · intro w'
    go_simp
    with_reducible rfl
  rotate_left
  · simp only [Act.put, List.setIfInBounds_toArray, List.set_cons_zero, List.set_cons_succ, i64_w, i32_w]
    rfl
  refine take_ (i := 7) (N := some 12) (v := ?_) (a' := ?_) #[true, true, true, true, true, true, true, true, false, false, false] rfl rfl (by kernel_rfl) (fun _ _ _ h => h) (Or.inl ⟨by rfl, ?_⟩) hHeld ?_ ?_
  rotate_left
  · rintro w' ⟨s0, s1, s2, s3⟩
    go_simp
    with_reducible rfl
  rotate_left
  · simp only [Act.put, List.setIfInBounds_toArray, List.set_cons_zero, List.set_cons_succ, i64_w, i32_w]
    rfl
  refine take_ (i := 8) (N := some 13) (v := ?_) (a' := ?_) #[true, true, true, true, true, true, true, true, true, false, false] rfl rfl (by kernel_rfl) (fun _ _ _ h => h) (Or.inl ⟨by rfl, ?_⟩) hHeld ?_ ?_
  rotate_left
  · rintro w' ⟨s0, s1, s2, s3⟩
    go_simp
    with_reducible rfl
  rotate_left
  · simp only [Act.put, List.setIfInBounds_toArray, List.set_cons_zero, List.set_cons_succ, i64_w, i32_w]
    rfl
  refine pure_ (i := 9) (N := some 14) (v := ?_) (a' := ?_) #[true, true, true, true, true, true, true, true, true, true, false] rfl rfl (by kernel_rfl) (fun _ _ _ h => h) (Or.inl ⟨by rfl, ?_⟩) ?_ ?_
  rotate_left
  · intro w'
    go_simp
    with_reducible rfl
  rotate_left
  · simp only [Act.put, List.setIfInBounds_toArray, List.set_cons_zero, List.set_cons_succ, i64_w, i32_w]
    rfl
  refine pure_ (i := 10) (N := some 4) (v := ?_) (a' := ?_) #[true, true, true, true, true, true, true, true, true, true, true] rfl rfl (by kernel_rfl) (fun _ _ _ h => h) (Or.inl ⟨by rfl, ?_⟩) ?_ ?_
  rotate_left
  · intro w'
    go_simp
    with_reducible rfl
  rotate_left
  · simp only [Act.put, List.setIfInBounds_toArray, List.set_cons_zero, List.set_cons_succ, i64_w, i32_w]
    rfl
  refine done_ (by kernel_rfl) ?_
  go_wp2
  go_ret
  exact ⟨rfl, (Below.refl _ w).drew⟩
end Go.Proofs.Ytlfimleciemobab
