import Derived.Test.YtcfjciencggflaaDoorOpen
import Derived.Test.YtcfjciencggflaaDoorV5
import Derived.Test.YtcfjciencggflaaDoorV2
import Derived.Test.YtcfjciencggflaaDoorVrfT
set_option linter.unusedVariables false
set_option linter.unusedSimpArgs false
/- The list of what is done with a trie, opened. -/
namespace Go.Proofs.YtcfjciencggflaaDoor
open Go.RowKit Go.ChangeShapes Go.WideShapes Go.Deep

/-- Something that is done with a trie. -/
structure PAct where
  d : Bool
  n : UInt8
  p : List UInt8

def PActsAt (w : World) (A : Option Addr) (l : List PAct) : Prop :=
  (A = none → l = []) ∧ ∀ ad, A = some ad → ∀ j (h : j < l.length), ∃ B c, w.cell? (ad.add (j * 3)) = some (.bool l[j].d) ∧ w.cell? (ad.add (j * 3 + 1)) = some (.int .u8 (l[j].n.toNat : Int)) ∧ w.cell? (ad.add (j * 3 + 2)) = some (.slice B l[j].p.length c) ∧ BSA w B c l[j].p
theorem PActsAt.below {w w' : World} {A : Option Addr} {l : List PAct} (h : PActsAt w A l) (hb : Below w.heap.size w w') : PActsAt w' A l :=
  ⟨h.1, fun ad e j hj => by
    obtain ⟨B, c, h1, h2, h3, h4⟩ := h.2 ad e j hj
    exact ⟨B, c, below_cell hb h1, below_cell hb h2, below_cell hb h3, h4.below hb⟩⟩
/-- Element k, its place written out. -/
theorem PActsAt.at_ {w : World} {A : Option Addr} {l : List PAct} (h : PActsAt w A l) (k : Nat) (hk : k < l.length) : ∃ b o B c, A = some ⟨b, o, none⟩ ∧ w.cell? ⟨b, o + k * 3, none⟩ = some (.bool l[k].d) ∧ w.cell? ⟨b, o + k * 3 + 1, none⟩ = some (.int .u8 (l[k].n.toNat : Int)) ∧ w.cell? ⟨b, o + k * 3 + 2, none⟩ = some (.slice B l[k].p.length c) ∧ BSA w B c l[k].p := by
  cases A with
  | none => have := h.1 rfl; subst this; simp at hk
  | some ad =>
    obtain ⟨B, c, h1, h2, h3, h4⟩ := h.2 ad rfl k hk
    obtain ⟨b, o, sp⟩ := ad
    have hs : sp = none := by
      obtain ⟨_, _, g1, _⟩ := h.2 _ rfl 0 (by omega)
      simpa [Addr.add] using World.cell?_spot g1
    subst hs
    have hadd : ∀ i, (⟨b, o, none⟩ : Addr).add i = ⟨b, o + i, none⟩ := fun i => by unfold Addr.add; split <;> simp_all
    rw [hadd] at h1 h2 h3
    exact ⟨b, o, B, c, rfl, h1, by simpa [Nat.add_assoc] using h2, by simpa [Nat.add_assoc] using h3, h4⟩

section
variable {H : Type} {enc : TypeId × Value → H} {w : World} {base : Nat} {spare : Nat → Bool} {held : Bool}
instance : Inhabited PAct := ⟨⟨false, 0, []⟩⟩

set_option maxRecDepth 100000 in
theorem open_pacts {fuel : Nat} {a : Option Addr} {len cap : Nat} {x : DataW H × List MemPlace} (h : DataW.trod enc Tryd.prog w base spare held fuel 30 [.slice a len cap] = some x) : ∃ l : List PAct, l.length = len ∧ l.length ≤ cap ∧ cap ≤ maxLen ∧ PActsAt w a l := by
  have hce : Tryd.prog.cellsOf 72 = 3 := by kernel_rfl
  rcases open_slice Tryd.underlying30 h with ⟨hcs, _⟩ | ⟨ad, l, c, m, n, D, Pl, hcs, _, hl, hm, hmm, _, hel⟩
  · simp at hcs
    obtain ⟨rfl, rfl, rfl⟩ := hcs
    exact ⟨[], rfl, Nat.le_refl _, by unfold maxLen; omega, fun _ => rfl, fun ad e => by cases e⟩
  · simp at hcs
    obtain ⟨rfl, rfl, rfl⟩ := hcs
    have hlm : len ≤ m := by rw [hmm]; split <;> omega
    have key : ∀ i, i < len → ∃ x : PAct, ∃ B c, w.cell? (ad.add (i * 3)) = some (.bool x.d) ∧ w.cell? (ad.add (i * 3 + 1)) = some (.int .u8 (x.n.toNat : Int)) ∧ w.cell? (ad.add (i * 3 + 2)) = some (.slice B x.p.length c) ∧ BSA w B c x.p := by
      intro i hi
      obtain ⟨cs', hcells, hy⟩ := hel i (by omega)
      rw [hce] at hcells
      obtain ⟨_, hlen, hcell⟩ := World.cells?_some hcells
      obtain ⟨y0, y1, y2, n', _, _, t0, t1, t2⟩ := trod_struct3 Tryd.underlying72 hy
      match cs', hlen with
      | [u0, u1, u2], _ =>
        obtain ⟨k0, e0, _⟩ := DataW.trod_bool Tryd.underlying4 t0
        obtain ⟨k1, e1, _, w1⟩ := DataW.trod_int Tryd.underlying5 t1
        obtain ⟨lp, B, c, e2, hb⟩ := open_bytes' t2
        have hc4 : Tryd.prog.cellsOf 4 = 1 := by kernel_rfl
        have hc5 : Tryd.prog.cellsOf 5 = 1 := by kernel_rfl
        have hc26 : Tryd.prog.cellsOf 22 = 1 := by kernel_rfl
        simp [hc4, hc5, hc26] at e0 e1 e2
        subst e0 e1 e2
        have q0 := hcell 0 (by omega)
        have q1 := hcell 1 (by omega)
        have q2 := hcell 2 (by omega)
        simp only [add_add] at q0 q1 q2
        refine ⟨⟨k0, UInt8.ofNat k1.toNat, lp⟩, B, c, q0, ?_, q2, hb⟩
        show _ = some (Value.int .u8 ((UInt8.ofNat k1.toNat).toNat : Int))
        rw [u8_of_int w1]; exact q1
    obtain ⟨f, hf⟩ := choose_lt key
    refine ⟨(List.range len).map f, by simp, by simpa using hl, hm, (fun e => by cases e), fun ad' e j hj => ?_⟩
    cases e
    have hj' : j < len := by simpa using hj
    obtain ⟨B, c, h1⟩ := hf j hj'
    refine ⟨B, c, ?_⟩
    simpa using h1
end
end Go.Proofs.YtcfjciencggflaaDoor

/- The walks of small and made. -/
namespace Go.Proofs.YtcfjciencggflaaDoor
open Go.RowKit PrintLast

def SmallL (l : List PAct) : Prop := (∀ x ∈ l, x.p.length ≤ 20) ∧ l.length ≤ 30
instance (l : List PAct) : Decidable (SmallL l) := by unfold SmallL; infer_instance
set_option maxRecDepth 100000 in
set_option maxHeartbeats 3200000 in
theorem small_any {w : World} {A : Option Addr} {c n : Nat} {l : List PAct} (hn : l.length = n) (h : PActsAt w A l) (hc : n ≤ c) (hb : c ≤ maxLen) :
    Calls Tryd.prog 15 #[.slice A n c] w fun e w' => e = .returned (.bool (decide (SmallL l))) ∧ w = w' := by
  have hb2 : n ≤ 9223372036854775807 := by unfold maxLen at hb; omega
  have HN := hid hn
  have HH := hid h
  clear hn h
  go_enter Tryd.func15, Tryd.ntmps15
  go_wp2
  go_loopw [3] (fun i wr => ∃ j : Nat, j ≤ n ∧ i = .int .i64 j ∧ Hid (∀ x ∈ l.take j, x.p.length ≤ 20) ∧ w = wr) (fun i _ => n - (intOf i).toNat)
  case atStart => exact ⟨0, Nat.zero_le _, rfl, hid (fun x hx => absurd hx (by simp)), rfl⟩
  case round =>
    obtain ⟨j, hj, rfl, HA, rfl⟩ := hrel
    by_cases hlt : j < n
    · have t1 : decide ((j : Int) < (n : Int)) = true := by simp; omega
      have t1' : decide (j < n) = true := by simp; omega
      have jl : j < l.length := by have := HN.out; omega
      obtain ⟨b, o, B, pc, rfl, q0, q1, q2, hB⟩ := HH.out.at_ j jl
      have hpl := hB.le
      obtain ⟨pm, hpm⟩ : ∃ m, m = l[j].p.length := ⟨_, rfl⟩
      rw [← hpm] at q2 hpl
      have HP := hid hpm
      clear hB hpm q0 q1
      by_cases h20 : 20 < pm
      · have t2 : decide ((20 : Int) < (pm : Int)) = true := by simp; omega
        have E := hid (show decide (SmallL l) = false by
          rw [decide_eq_false_iff_not]
          intro h
          have := h.1 l[j] (List.getElem_mem _)
          have := HP.out
          omega)
        clear h20
        go_wp2
        go_ret
        exact ⟨by rw [E.out]; rfl, rfl⟩
      · have t2 : decide ((20 : Int) < (pm : Int)) = false := by simp; omega
        have E := hid (show ∀ x ∈ l.take (j + 1), x.p.length ≤ 20 by
          intro x hx
          rw [List.take_add_one, List.getElem?_eq_getElem jl] at hx
          rcases List.mem_append.1 hx with hx | hx
          · exact HA.out x hx
          · simp at hx
            rw [hx, ← HP.out]
            omega)
        clear h20
        go_wp2
        go_roundw
        case rel => exact ⟨j + 1, hlt, by go_num, E, by first | rfl | trivial⟩
        case measure => simp [intOf]; omega
    · obtain rfl : n = j := by omega
      have t1 : decide ((n : Int) < (n : Int)) = false := by simp
      have E := hid (show decide (SmallL l) = decide ((n : Int) ≤ 30) by
        have h1 := HA.out
        rw [List.take_of_length_le (Nat.le_of_eq HN.out)] at h1
        have h2 := HN.out
        rw [decide_eq_decide]
        constructor
        · intro h; have := h.2; omega
        · intro h; exact ⟨h1, by omega⟩)
      clear HA
      go_wp2
      go_ret
      exact ⟨by rw [E.out]; rfl, rfl⟩

theorem delR_map (l : List RI) (k : ByteArray) : mapI (delR l k) = delI (mapI l) k := by
  unfold mapI delR delI
  induction l with
  | nil => rfl
  | cons x l ih =>
    rw [List.filter_cons, List.map_cons, List.filter_cons]
    by_cases h : x.key = k
    · rw [if_neg (by simp [h]), if_neg (by show ¬ decide (x.key ≠ k) = true; simp [h]), ih]
    · rw [if_pos (by simp [h]), if_pos (by show decide (x.key ≠ k) = true; simp [h]), List.map_cons, ih]
theorem key_conv (w : World) (kb : UInt8) : (convert 22 9 (.slice (some ⟨w.heap.size, 0, none⟩) 2 2)).run Tryd.prog (w.alloc (.cells #[.int .u8 107, .int .u8 (kb.toNat : Int)] 5)) = .ok (.string (key2 kb)) (w.alloc (.cells #[.int .u8 107, .int .u8 (kb.toNat : Int)] 5)) :=
  conv_any (l := [107, kb]) rfl (lits_row w (Nat.zero_le _) [107, kb] (by simp)).bsa
set_option maxRecDepth 100000 in
set_option maxHeartbeats 12800000 in
theorem made_any {w : World} (hT : Table w) {A : Option Addr} {c n : Nat} {l : List PAct} (hn : l.length = n) (h : PActsAt w A l) (hc : n ≤ c) (hs : SmallL l) :
    Calls Tryd.prog 36 #[.slice A n c] w fun e w' => ∃ v A' c' n' li L, e = .returned (.tuple #[v, .slice A' n' c']) ∧ PairOf w' v A' c' n' 30 li L ∧ Below w.heap.size w w' := by
  have n30 : n ≤ 30 := by have := hs.2; omega
  have HN := hid hn
  have HH := hid h
  have TT := hid hT
  have SS := hid hs.1
  have M0 := hid (made_start w)
  have B0 := hid (Below.refl w.heap.size w)
  clear hn h hT hs
  go_enter Tryd.func36, Tryd.ntmps36
  go_wp2
  go_loopw [4, 5, 6] (fun tv iv i wr => ∃ (j n' c' : Nat) (v : Value) (A' : Option Addr) (li : List Itm) (L : List RI), j ≤ n ∧ i = .int .i64 j ∧ v = tv ∧ iv = .slice A' n' c' ∧ n' ≤ c' ∧ n' ≤ j ∧ Hid (PairOf wr v A' c' n' j li L) ∧ Hid (Below w.heap.size w wr)) (fun _ _ i _ => n - (intOf i).toNat)
  case atStart => exact ⟨0, 0, 0, .pointer none, none, [], [], Nat.zero_le _, rfl, rfl, rfl, Nat.le_refl _, Nat.le_refl _, M0, B0⟩
  case round =>
    clear M0 B0
    obtain ⟨j, m, mc, v, MA, li, L, hj, rfl, rfl, rfl, hmc, hmj, HM, HB⟩ := hrel
    by_cases hlt : j < n
    · have t1 : decide ((j : Int) < (n : Int)) = true := by simp; omega
      have t1' : decide (j < n) = true := by simp; omega
      have jl : j < l.length := by have := HN.out; omega
      obtain ⟨b, o, B, pc, rfl, q0, q1, q2, hB⟩ := (HH.out.below HB.out).at_ j jl
      obtain ⟨x, hx⟩ : ∃ x, x = l[j] := ⟨_, rfl⟩
      rw [← hx] at q0 q1 q2 hB
      have xs : x.p.length ≤ 20 := SS.out x (by rw [hx]; exact List.getElem_mem jl)
      obtain ⟨row, hrow⟩ : ∃ row, row = x.p := ⟨_, rfl⟩
      rw [← hrow] at q2 hB xs
      obtain ⟨pm, hpm⟩ : ∃ m, m = row.length := ⟨_, rfl⟩
      rw [← hpm] at q2 xs
      obtain ⟨kb, hkb⟩ : ∃ kb : UInt8, kb = x.n % 24 := ⟨_, rfl⟩
      have kn : kb.toNat = x.n.toNat % 24 := by rw [hkb, UInt8.toNat_mod]; rfl
      have e1 : (x.n.toNat : Int) % 24 = (kb.toNat : Int) := by omega
      have kb24 : kb.toNat < 24 := by omega
      obtain ⟨xn, hxn⟩ : ∃ xn, xn = x.n.toNat := ⟨_, rfl⟩
      rw [← hxn] at q1 e1
      have HP := hid hpm
      have RB := hid hB
      obtain ⟨dl, hdl⟩ : ∃ d, d = x.d := ⟨_, rfl⟩
      rw [← hdl] at q0
      have cv := key_conv wr kb
      have al := below_alloc (Below.refl _ wr) (.cells #[.int .u8 107, .int .u8 (kb.toNat : Int)] 5)
      have Q0 := hid (below_cell al q0)
      have Q2 := hid (below_cell al q2)
      have M1 := hid (HM.out.below al)
      replace RB := hid (RB.out.below al)
      have B1 := hid (below_then HB.out al)
      clear hB hx hrow hpm hkb kn hxn hdl q0 q2 al HM HB
      go_upto_region 7 with fail
      have q0 := Q0.out
      generalize wr.alloc (.cells #[.int .u8 107, .int .u8 (kb.toNat : Int)] 5) = w1 at *
      obtain ⟨key, hkey⟩ : ∃ key, key = key2 kb := ⟨_, rfl⟩
      rw [← hkey]
      have HK := hid hkey
      clear cv q1 e1 hkey
      cases dl with
      | true =>
        have D0 : Calls Tryd.prog 55 #[v, .string key] w1 (Grew w1 (treeF 256 (delI li key))) := Del_any (TT.out.below B1.out) M1.out.2.2.2.1 (by rw [HK.out, key2_size]; omega) M1.out.2.2.2.2.2.2.good (by have := M1.out.len; omega)
        have DD := hid D0
        clear D0 Q2
        go_wp2_with fail
        refine DD.out.mono ?_
        rintro e w2 ⟨v2, rfl, t2, b2⟩
        have R2 := hid (rdel_any (k := key) M1.out.1 (M1.out.2.2.2.2.1.1.below b2) hmc (by omega))
        have T2 := hid t2
        have B2 := hid (below_then B1.out b2)
        clear DD t2 b2
        go_wp2_with fail
        refine R2.out.mono ?_
        rintro e w3 ⟨A3, c3, n3, rfl, hn3, i3, b3⟩
        have pn : (mapI (delR L key)).Perm (delI li key) := by
          rw [show mapI (delR L key) = delI (mapI L) key from delR_map L key]
          exact M1.out.2.2.2.2.2.1.filter _
        have nn := M1.out.2.2.2.2.2.2.del key
        have n3j : n3 ≤ j + 1 := by
          have h1 : (delR L key).length ≤ L.length := List.length_filter_le _ _
          have := M1.out.1
          omega
        have c3n := i3.le hn3
        have M3 : Hid (PairOf w3 v2 A3 c3 n3 (j + 1) (delI li key) (delR L key)) := hid ⟨hn3, c3n, n3j, Tree.below T2.out b3, ⟨i3.at_, (names_ready pn nn).1, (names_ready pn nn).2, i3.typed⟩, pn, nn⟩
        have B3 := hid (below_then B2.out b3)
        clear R2 hn3 i3 b3 pn nn q0
        go_wp2
        go_roundw
        case rel => exact ⟨j + 1, n3, c3, v2, A3, delI li key, delR L key, hlt, by go_num, rfl, rfl, c3n, n3j, M3, B3⟩
        case measure => simp [intOf]; omega
      | false =>
        go_upto_region 9 with fail
        have q2 := Q2.out
        have TD := hid (TT.out.below B1.out)
        have nn := M1.out.2.2.2.2.2.2.put (row := row) kb24 (by have := HP.out; omega)
        have M1d := hid (M1.out.below (Below.refl _ w1).drew)
        have P0 : Calls Tryd.prog 57 #[v, .string key, .slice B pm pc] w1.drew (Grew w1.drew (treeF 256 (putI li ⟨key, row⟩))) := by
          rw [HK.out]
          exact Put_any (TD.out.below (Below.refl _ w1).drew) M1d.out.2.2.2.1 (by rw [key2_size]; omega) HP.out.symm (by omega) (RB.out.below (Below.refl _ w1).drew) M1.out.2.2.2.2.2.2.good nn.good (M1.out.2.2.2.2.2.2.tells kb24) (by have := M1.out.len; omega)
        have PP := hid P0
        have RP : Hid (∀ w2, Below w1.drew.heap.size w1.drew w2 → Calls Tryd.prog 58 #[.slice MA m mc, .string key, .slice B pm pc] w2 fun e w' => ∃ L', Hid ((L'.map RI.itm).Perm (putI (L.map RI.itm) ⟨key, row⟩)) ∧ GaveI w2 L' e w') := hid (fun w2 hb => rput_any M1.out.1 (M1d.out.2.2.2.2.1.1.below hb) hmc (by omega) HP.out.symm ((RB.out.below (Below.refl _ w1).drew).below hb) (by omega))
        have NN := hid (show Names (putI li ⟨key, row⟩) by rw [HK.out]; exact nn)
        have BD : Hid (Below w.heap.size w w1.drew) := hid B1.out.drew
        clear P0 nn q0 Q0 Q2
        refine start_ (n := 18) (S := fun w' => w'.cell? ⟨b, o + j * 3 + 2, none⟩ = some (.slice B pm pc)) (ds := []) #[false, false, false, false, false, false, false, false, false, false, false, false, false, false, false, false, false, false] (by kernel_rfl) rfl rfl (q2) (fun hHeld => ?_)
        refine pure_ (i := 0) (N := some 33) (v := ?_) (a' := ?_) #[true, false, false, false, false, false, false, false, false, false, false, false, false, false, false, false, false, false] rfl rfl (by kernel_rfl) (fun _ _ _ h => h) (Or.inl ⟨by rfl, ?_⟩) ?_ ?_
        rotate_left
        · intro w'
          go_simp
          with_reducible rfl
        rotate_left
        · simp only [Act.put, List.setIfInBounds_toArray, List.set_cons_zero, List.set_cons_succ, i64_w, i32_w]
          rfl
        refine pure_ (i := 1) (N := some 34) (v := ?_) (a' := ?_) #[true, true, false, false, false, false, false, false, false, false, false, false, false, false, false, false, false, false] rfl rfl (by kernel_rfl) (fun _ _ _ h => h) (Or.inl ⟨by rfl, ?_⟩) ?_ ?_
        rotate_left
        · intro w'
          go_simp
          with_reducible rfl
        rotate_left
        · simp only [Act.put, List.setIfInBounds_toArray, List.set_cons_zero, List.set_cons_succ, i64_w, i32_w]
          rfl
        refine pure_ (i := 2) (N := some 35) (v := ?_) (a' := ?_) #[true, true, true, false, false, false, false, false, false, false, false, false, false, false, false, false, false, false] rfl rfl (by kernel_rfl) (fun _ _ _ h => h) (Or.inl ⟨by rfl, ?_⟩) ?_ ?_
        rotate_left
        · intro w'
          go_simp
          with_reducible rfl
        rotate_left
        · simp only [Act.put, List.setIfInBounds_toArray, List.set_cons_zero, List.set_cons_succ, i64_w, i32_w]
          rfl
        refine pure_ (i := 3) (N := some 36) (v := ?_) (a' := ?_) #[true, true, true, true, false, false, false, false, false, false, false, false, false, false, false, false, false, false] rfl rfl (by kernel_rfl) (fun _ _ _ h => h) (Or.inl ⟨by rfl, ?_⟩) ?_ ?_
        rotate_left
        · intro w'
          go_simp
          with_reducible rfl
        rotate_left
        · simp only [Act.put, List.setIfInBounds_toArray, List.set_cons_zero, List.set_cons_succ, i64_w, i32_w]
          rfl
        refine pure_ (i := 4) (N := some 37) (v := ?_) (a' := ?_) #[true, true, true, true, true, false, false, false, false, false, false, false, false, false, false, false, false, false] rfl rfl (by kernel_rfl) (fun _ _ _ h => h) (Or.inl ⟨by rfl, ?_⟩) ?_ ?_
        rotate_left
        · intro w'
          go_simp
          with_reducible rfl
        rotate_left
        · simp only [Act.put, List.setIfInBounds_toArray, List.set_cons_zero, List.set_cons_succ, i64_w, i32_w]
          rfl
        refine pure_ (i := 5) (N := some 38) (v := ?_) (a' := ?_) #[true, true, true, true, true, true, false, false, false, false, false, false, false, false, false, false, false, false] rfl rfl (by kernel_rfl) (fun _ _ _ h => h) (Or.inl ⟨by rfl, ?_⟩) ?_ ?_
        rotate_left
        · intro w'
          go_simp
          with_reducible rfl
        rotate_left
        · simp only [Act.put, List.setIfInBounds_toArray, List.set_cons_zero, List.set_cons_succ, i64_w, i32_w]
          rfl
        refine pure_ (i := 8) (N := some 41) (v := ?_) (a' := ?_) #[true, true, true, true, true, true, false, false, true, false, false, false, false, false, false, false, false, false] rfl rfl (by kernel_rfl) (fun _ _ _ h => h) (Or.inl ⟨by rfl, ?_⟩) ?_ ?_
        rotate_left
        · intro w'
          go_simp
          with_reducible rfl
        rotate_left
        · simp only [Act.put, List.setIfInBounds_toArray, List.set_cons_zero, List.set_cons_succ, i64_w, i32_w]
          rfl
        refine pure_ (i := 9) (N := some 42) (v := ?_) (a' := ?_) #[true, true, true, true, true, true, false, false, true, true, false, false, false, false, false, false, false, false] rfl rfl (by kernel_rfl) (fun _ _ _ h => h) (Or.inl ⟨by rfl, ?_⟩) ?_ ?_
        rotate_left
        · intro w'
          go_simp
          with_reducible rfl
        rotate_left
        · simp only [Act.put, List.setIfInBounds_toArray, List.set_cons_zero, List.set_cons_succ, i64_w, i32_w]
          rfl
        refine pure_ (i := 10) (N := some 43) (v := ?_) (a' := ?_) #[true, true, true, true, true, true, false, false, true, true, true, false, false, false, false, false, false, false] rfl rfl (by kernel_rfl) (fun _ _ _ h => h) (Or.inl ⟨by rfl, ?_⟩) ?_ ?_
        rotate_left
        · intro w'
          go_simp
          with_reducible rfl
        rotate_left
        · simp only [Act.put, List.setIfInBounds_toArray, List.set_cons_zero, List.set_cons_succ, i64_w, i32_w]
          rfl
        refine pure_ (i := 11) (N := some 44) (v := ?_) (a' := ?_) #[true, true, true, true, true, true, false, false, true, true, true, true, false, false, false, false, false, false] rfl rfl (by kernel_rfl) (fun _ _ _ h => h) (Or.inl ⟨by rfl, ?_⟩) ?_ ?_
        rotate_left
        · intro w'
          go_simp
          with_reducible rfl
        rotate_left
        · simp only [Act.put, List.setIfInBounds_toArray, List.set_cons_zero, List.set_cons_succ, i64_w, i32_w]
          rfl
        refine pure_ (i := 12) (N := some 45) (v := ?_) (a' := ?_) #[true, true, true, true, true, true, false, false, true, true, true, true, true, false, false, false, false, false] rfl rfl (by kernel_rfl) (fun _ _ _ h => h) (Or.inl ⟨by rfl, ?_⟩) ?_ ?_
        rotate_left
        · intro w'
          go_simp
          with_reducible rfl
        rotate_left
        · simp only [Act.put, List.setIfInBounds_toArray, List.set_cons_zero, List.set_cons_succ, i64_w, i32_w]
          rfl
        refine pure_ (i := 13) (N := some 46) (v := ?_) (a' := ?_) #[true, true, true, true, true, true, false, false, true, true, true, true, true, true, false, false, false, false] rfl rfl (by kernel_rfl) (fun _ _ _ h => h) (Or.inl ⟨by rfl, ?_⟩) ?_ ?_
        rotate_left
        · intro w'
          go_simp
          with_reducible rfl
        rotate_left
        · simp only [Act.put, List.setIfInBounds_toArray, List.set_cons_zero, List.set_cons_succ, i64_w, i32_w]
          rfl
        refine take_ (i := 6) (N := some 39) (v := ?_) (a' := ?_) #[true, true, true, true, true, true, true, false, true, true, true, true, true, true, false, false, false, false] rfl rfl (by kernel_rfl) (fun _ _ _ h => h) (Or.inl ⟨by rfl, ?_⟩) hHeld ?_ ?_
        rotate_left
        · intro w' s0
          go_simp
          with_reducible rfl
        rotate_left
        · simp only [Act.put, List.setIfInBounds_toArray, List.set_cons_zero, List.set_cons_succ, i64_w, i32_w]
          rfl
        refine take_ (i := 14) (N := some 47) (v := ?_) (a' := ?_) #[true, true, true, true, true, true, true, false, true, true, true, true, true, true, true, false, false, false] rfl rfl (by kernel_rfl) (fun _ _ _ h => h) (Or.inl ⟨by rfl, ?_⟩) hHeld ?_ ?_
        rotate_left
        · intro w' s0
          go_simp
          with_reducible rfl
        rotate_left
        · simp only [Act.put, List.setIfInBounds_toArray, List.set_cons_zero, List.set_cons_succ, i64_w, i32_w]
          rfl
        refine one_ (i := 7) (N := some 40) #[true, true, true, true, true, true, true, true, true, true, true, true, true, true, true, false, false, false] rfl rfl (by kernel_rfl) (by decide) (fun K hK => ?_)
        refine goes_ Tryd.func57 (by kernel_rfl) rfl #[v, .string key, .slice B pm pc] (by rfl) rfl rfl (by simp only [List.map_toArray, List.map_cons, List.map_nil]; rfl) ?_
        with_reducible refine (PP.out).mono ?_
        rintro e' w2 ⟨v2, rfl, t2, b2⟩
        refine ⟨_, rfl, ?_⟩
        refine hK.out _ _ ((below_cell b2 hHeld)) (fun hHeld => ?_)
        clear hK K
        refine norm_ (a' := ?_) ?_ ?_
        rotate_left
        · show Act.put _ (some 40) _ = _
          simp only [Act.put, List.setIfInBounds_toArray, List.set_cons_zero, List.set_cons_succ, i64_w, i32_w]
          rfl
        refine one_ (i := 15) (N := some 48) #[true, true, true, true, true, true, true, true, true, true, true, true, true, true, true, true, false, false] rfl rfl (by kernel_rfl) (by decide) (fun K hK => ?_)
        refine goes_ Tryd.func58 (by kernel_rfl) rfl #[.slice MA m mc, .string key, .slice B pm pc] (by rfl) rfl rfl (by simp only [List.map_toArray, List.map_cons, List.map_nil]; rfl) ?_
        with_reducible refine ((RP.out w2 b2)).mono ?_
        rintro e' w3 ⟨L', hp', A3, c3, n3, rfl, hn3, i3, b3⟩
        refine ⟨_, rfl, ?_⟩
        refine hK.out _ _ ((below_cell b3 hHeld)) (fun hHeld => ?_)
        clear hK K
        refine norm_ (a' := ?_) ?_ ?_
        rotate_left
        · show Act.put _ (some 48) _ = _
          simp only [Act.put, List.setIfInBounds_toArray, List.set_cons_zero, List.set_cons_succ, i64_w, i32_w]
          rfl
        refine pure_ (i := 16) (N := some 4) (v := ?_) (a' := ?_) #[true, true, true, true, true, true, true, true, true, true, true, true, true, true, true, true, true, false] rfl rfl (by kernel_rfl) (fun _ _ _ h => h) (Or.inl ⟨by rfl, ?_⟩) ?_ ?_
        rotate_left
        · intro w'
          go_simp
          with_reducible rfl
        rotate_left
        · simp only [Act.put, List.setIfInBounds_toArray, List.set_cons_zero, List.set_cons_succ, i64_w, i32_w]
          rfl
        refine pure_ (i := 17) (N := some 5) (v := ?_) (a' := ?_) #[true, true, true, true, true, true, true, true, true, true, true, true, true, true, true, true, true, true] rfl rfl (by kernel_rfl) (fun _ _ _ h => h) (Or.inl ⟨by rfl, ?_⟩) ?_ ?_
        rotate_left
        · intro w'
          go_simp
          with_reducible rfl
        rotate_left
        · simp only [Act.put, List.setIfInBounds_toArray, List.set_cons_zero, List.set_cons_succ, i64_w, i32_w]
          rfl
        refine done_ (by kernel_rfl) ?_
        have pn : (mapI L').Perm (putI li ⟨key, row⟩) := hp'.out.trans (List.Perm.cons _ (M1.out.2.2.2.2.2.1.filter _))
        have n3j : n3 ≤ j + 1 := by
          have h1 := putI_length li ⟨key, row⟩
          have h2 := pn.length_eq
          rw [mapI_length] at h2
          have := M1.out.len
          omega
        have c3n := i3.le hn3
        have M3 : Hid (PairOf w3 v2 A3 c3 n3 (j + 1) (putI li ⟨key, row⟩) L') := hid ⟨hn3, c3n, n3j, Tree.below t2 b3, ⟨i3.at_, (names_ready pn NN.out).1, (names_ready pn NN.out).2, i3.typed⟩, pn, NN.out⟩
        have B3 := hid (BD.out.trans ((b2.trans (b3.mono b2.size)).mono BD.out.size))
        clear PP RP hp' hn3 i3 b3 b2 t2 pn q2 M1d
        go_wp2
        go_roundw
        case rel => exact ⟨j + 1, n3, c3, v2, A3, putI li ⟨key, row⟩, L', hlt, by go_num, rfl, rfl, c3n, n3j, M3, B3⟩
        case measure => simp [intOf]; omega
    · obtain rfl : n = j := by omega
      have t1 : decide ((n : Int) < (n : Int)) = false := by simp
      have n3 := n30
      go_wp2
      go_ret2
      exact ⟨v, MA, mc, m, li, L, rfl, ⟨HM.out.1, HM.out.2.1, Nat.le_trans HM.out.2.2.1 n30, HM.out.2.2.2⟩, HB.out⟩
end Go.Proofs.YtcfjciencggflaaDoor

/- The walks of the reference's Get and of shown. -/
namespace Go.Proofs.YtcfjciencggflaaDoor
open Go.RowKit PrintLast

theorem getI_found {l : List Itm} {key : ByteArray} : ∀ {k : Nat} (hk : k < l.length), (∀ j (hj : j < l.length), j < k → l[j].key ≠ key) → l[k].key = key → getI l key = some l[k].row := by
  induction l with
  | nil => intro k hk; simp at hk
  | cons x l ih =>
    intro k hk hP he
    unfold getI
    rw [List.find?_cons]
    cases k with
    | zero =>
      have : decide (x.key = key) = true := decide_eq_true he
      rw [this]
      rfl
    | succ k =>
      have h0 : decide (x.key = key) = false := decide_eq_false (hP 0 (by simp) (by omega))
      rw [h0]
      have := ih (k := k) (by simpa using hk) (fun j hj hjk => hP (j + 1) (by simpa using hj) (by omega)) he
      exact this
theorem getI_none {l : List Itm} {key : ByteArray} (h : ∀ j (hj : j < l.length), l[j].key ≠ key) : getI l key = none := by
  unfold getI
  have : l.find? (fun x => decide (x.key = key)) = none := by
    rw [List.find?_eq_none]
    intro x hx
    obtain ⟨j, hj, rfl⟩ := List.mem_iff_getElem.1 hx
    simpa using h j hj
  rw [this]
  rfl
theorem mapI_get {l : List RI} {k : Nat} (hk : k < l.length) : (mapI l)[k]'(by unfold mapI; rw [List.length_map]; exact hk) = l[k].itm := by simp [mapI]

set_option maxRecDepth 100000 in
set_option maxHeartbeats 3200000 in
theorem get_any {w : World} {A : Option Addr} {c n : Nat} {l : List RI} {key : ByteArray} (hn : l.length = n) (h : ItAt w A l) (hb : n ≤ 1000000) :
    Calls Tryd.prog 38 #[.slice A n c, .string key] w fun e w' => ∃ A' m' c' ok row, e = .returned (.tuple #[.slice A' m' c', .bool ok]) ∧ Hid (row.length = m' ∧ BSA w A' c' row ∧ getI (mapI l) key = (if ok then some row else none) ∧ (ok = false → row = [])) ∧ w = w' := by
  have HH := hid h
  have HN := hid hn
  have P0 := hid (show ∀ j (hj : j < l.length), j < 0 → l[j].key ≠ key from fun j _ hj => absurd hj (Nat.not_lt_zero j))
  clear h hn
  go_enter Tryd.func38, Tryd.ntmps38
  go_wp2
  go_loopw [6] (fun v wr => ∃ k : Nat, k ≤ n ∧ v = .int .i64 (k : Int) ∧ Hid (∀ j (hj : j < l.length), j < k → l[j].key ≠ key) ∧ w = wr) (fun v _ => n - (intOf v).toNat)
  case atStart => exact ⟨0, Nat.zero_le _, rfl, P0, rfl⟩
  case round =>
    clear P0
    obtain ⟨k, hk, rfl, hP, rfl⟩ := hrel
    by_cases hlt : k < n
    · have kl : k < l.length := by rw [HN.out]; exact hlt
      obtain ⟨g, o, rfl, q0, q1⟩ := HH.out.at_ k kl
      obtain ⟨x, hx⟩ : ∃ x, x = l[k] := ⟨_, rfl⟩
      rw [← hx] at q0 q1
      have RX := hid (HH.out.2.2 x (by rw [hx]; exact List.getElem_mem kl)).bsa
      obtain ⟨xk, hxk⟩ : ∃ xk, xk = x.key := ⟨_, rfl⟩
      obtain ⟨xm, hxm⟩ : ∃ xm, xm = x.row.length := ⟨_, rfl⟩
      rw [← hxk] at q0
      rw [← hxm] at q1
      have HXM := hid hxm
      by_cases he : xk = key
      · have t2 : (xk.toList == key.toList) = true := by rw [he]; exact beq_self_eq_true _
        have E := hid (show getI (mapI l) key = some x.row by
          have kl2 : k < (mapI l).length := by unfold mapI; rw [List.length_map]; exact kl
          have := getI_found (l := mapI l) (key := key) (k := k) kl2 (fun j hj hjk => by
            have hj2 : j < l.length := by unfold mapI at hj; rw [List.length_map] at hj; exact hj
            rw [mapI_get hj2]
            exact hP.out j hj2 hjk) (by rw [mapI_get kl, ← hx]; show x.key = key; rw [← hxk]; exact he)
          rw [this, mapI_get kl, ← hx]
          rfl)
        clear he hx hxk hxm kl hP
        go_wp2
        go_ret2
        exact ⟨x.A, xm, x.c, true, x.row, rfl, hid ⟨HXM.out.symm, RX.out, E.out, fun h => by cases h⟩, rfl⟩
      · have t2 : (xk.toList == key.toList) = false := by rw [str_beq]; exact decide_eq_false he
        have hP2 := hid (show ∀ j (hj : j < l.length), j < k + 1 → l[j].key ≠ key from fun j hj hjk => by
          by_cases hjk2 : j = k
          · subst hjk2
            rw [← hx, ← hxk]
            exact he
          · exact hP.out j hj (by omega))
        clear he hx hxk hxm kl hP
        go_wp2
        go_roundw
        case rel => exact ⟨k + 1, hlt, by go_num, hP2, (by first | exact rfl | exact trivial)⟩
        case measure => simp [intOf]; omega
    · obtain rfl : k = n := by omega
      have E := hid (getI_none (l := mapI l) (key := key) (fun j hj => by
        have hj2 : j < l.length := by unfold mapI at hj; rw [List.length_map] at hj; exact hj
        rw [mapI_get hj2]
        exact hP.out j hj2 (by rw [← HN.out]; exact hj2)))
      clear hP
      go_wp2
      go_ret2
      exact ⟨none, 0, 0, false, [], rfl, hid ⟨rfl, BSA.nil _, E.out, fun _ => rfl⟩, rfl⟩

/-! ### what is built fits -/
theorem walkT_sizes (t : Tr) : ∀ (d : Nat) (k : ByteArray), ∀ s ∈ (walkT t d k).1, s.size = 32 := by
  induction t with
  | nil => intro d k s hs; simp [walkT] at hs
  | leaf x => intro d k s hs; simp [walkT] at hs
  | node l r ihl ihr =>
    intro d k s hs
    unfold walkT at hs
    split at hs
    · rcases List.mem_cons.1 hs with rfl | hs
      · exact digS_size _
      · exact ihr _ _ s hs
    · rcases List.mem_cons.1 hs with rfl | hs
      · exact digS_size _
      · exact ihl _ _ s hs
theorem walkT_few (t : Tr) : ∀ (d : Nat) (k : ByteArray), (walkT t d k).1.length ≤ t.ht := by
  induction t with
  | nil => intro d k; simp [walkT]
  | leaf x => intro d k; simp [walkT]
  | node l r ihl ihr =>
    intro d k
    unfold walkT
    have h1 := ihl (d + 1) k
    have h2 := ihr (d + 1) k
    split <;> simp [Tr.ht] <;> omega
/-- Items as the law makes them. -/
def Told (l : List Itm) : Prop := Good 256 l ∧ ∀ y ∈ l, y.key.size = 2 ∧ y.row.length ≤ 20
theorem getI_mem {l : List Itm} {key : ByteArray} {row : List UInt8} (h : getI l key = some row) : ∃ y ∈ l, y.row = row := by
  unfold getI at h
  cases hf : l.find? fun x => decide (x.key = key) with
  | none => rw [hf] at h; cases h
  | some x =>
    rw [hf] at h
    exact ⟨x, List.mem_of_find?_eq_some hf, Option.some.inj h⟩
theorem built_fits {l : List Itm} (h : Told l) (key : ByteArray) : Fits (buildT (treeF 256 l) key) := by
  have hs := walkT_sizes (treeF 256 l) 0 key
  have hl := Nat.le_trans (walkT_few (treeF 256 l) 0 key) (treeF_ht 256 l)
  rcases built_cases h.1 key with ⟨row, h1, h2⟩ | ⟨h1, h2⟩ | ⟨y, my, hk, h1, h2, h3⟩
  · rw [h2]
    obtain ⟨y, my, rfl⟩ := getI_mem h1
    have := (h.2 y my).2
    exact ⟨hs, hl, (show (1 : UInt8).toNat ≤ 2 by decide), (show (⟨#[]⟩ : ByteArray).size ≤ 4000 by decide), by simp only; omega, fun _ => rfl, fun e => absurd e (show ¬ (1 : UInt8) = 0 by decide)⟩
  · rw [h2]
    exact ⟨hs, hl, (show (0 : UInt8).toNat ≤ 2 by decide), (show (⟨#[]⟩ : ByteArray).size ≤ 4000 by decide), by simp, fun _ => rfl, fun _ => rfl⟩
  · rw [h2]
    have := h.2 y my
    exact ⟨hs, hl, (show (2 : UInt8).toNat ≤ 2 by decide), by simp only; omega, by simp only; omega, fun e => absurd rfl e, fun e => absurd e (show ¬ (2 : UInt8) = 0 by decide)⟩
theorem results_tmp4 {fn : Func} {t u v x : Tmp} (h : fn.results = #[.tmp t, .tmp u, .tmp v, .tmp x]) (tmps : Array Value) (P : Program) (w : World) :
    (results fn tmps).run P w = .ok (.tuple #[tmps.getD t undef, tmps.getD u undef, tmps.getD v undef, tmps.getD x undef]) w := by
  simp [results, h]
/-- What shown tells. -/
def ShownAt (w' : World) (seed : List UInt8) (key d : ByteArray) (A : Option Addr) (m c : Nat) (B : Option Addr) (n k : Nat) (ok : Bool) (ll : List Itm) (row : List UInt8) : Prop :=
  Told ll ∧ row.length = m ∧ BSA w' A c row ∧ getI ll key = (if ok then some row else none) ∧ (ok = false → row = []) ∧ (layB (dig seed) (dig (seed ++ [1])) (buildT (treeF 256 ll) key)).length = n ∧
  BSA w' B k (layB (dig seed) (dig (seed ++ [1])) (buildT (treeF 256 ll) key)) ∧ d = dig (linkB (dig seed).data.toList (treeF 256 ll).dig (dig (seed ++ [1])).data.toList)
theorem ShownAt.below {w w' : World} {seed : List UInt8} {key d : ByteArray} {A B : Option Addr} {m c n k : Nat} {ok : Bool} {ll : List Itm} {row : List UInt8} (h : ShownAt w seed key d A m c B n k ok ll row) (hb : Below w.heap.size w w') : ShownAt w' seed key d A m c B n k ok ll row :=
  ⟨h.1, h.2.1, h.2.2.1.below hb, h.2.2.2.1, h.2.2.2.2.1, h.2.2.2.2.2.1, h.2.2.2.2.2.2.1.below hb, h.2.2.2.2.2.2.2⟩

set_option maxRecDepth 100000 in
set_option maxHeartbeats 6400000 in
theorem shown_any {w : World} (hT : Table w) {A C : Option Addr} {c n r D : Nat} {l : List PAct} {key : ByteArray} {seed : List UInt8} (hn : l.length = n) (h : PActsAt w A l) (hc : n ≤ c) (hs : SmallL l) (hk : key.size ≤ 60000) (hr : seed.length = r) (hS : BSA w C D seed) (hr2 : r ≤ 1000000) :
    Calls Tryd.prog 16 #[.slice A n c, .string key, .slice C r D] w fun e w' => ∃ d A' m' c' B' n' k' ok ll row, e = .returned (.tuple #[.string d, .slice A' m' c', .slice B' n' k', .bool ok]) ∧ Hid (ShownAt w' seed key d A' m' c' B' n' k' ok ll row) ∧ Below w.heap.size w w' := by
  have HM := hid (made_any hT hn h hc hs)
  have TT := hid hT
  have SS := hid (And.intro hr hS)
  clear hT hn h hs hr hS hc
  go_enter Tryd.func16, Tryd.ntmps16
  go_wp2_with fail
  refine HM.out.mono ?_
  rintro e w1 ⟨v, A1, c1, n1, li, L, rfl, M1, b1⟩
  replace TT := hid (TT.out.below b1)
  replace SS := hid (And.intro SS.out.1 (SS.out.2.below b1))
  have MM := hid M1
  have BB := hid b1
  have H1 := hid (rsum_dig (w := w1) SS.out.1 SS.out.2 (by rw [SS.out.1]; omega))
  obtain ⟨d1, hd1⟩ : ∃ d1, d1 = dig seed := ⟨_, rfl⟩
  rw [← hd1] at H1
  have HD1 := hid hd1
  clear HM b1 M1 hd1
  go_wp2_with fail
  refine H1.out.mono ?_
  rintro e w2 ⟨rfl, b2⟩
  replace TT := hid (TT.out.below b2)
  replace SS := hid (And.intro SS.out.1 (SS.out.2.below b2))
  replace MM := hid (MM.out.below b2)
  replace BB := hid (below_then BB.out b2)
  have al := below_alloc (Below.refl _ w2) (.cells (bytesV [1]).toArray 5)
  have H2 := hid (join_gave (w := w2.alloc (.cells (bytesV [1]).toArray 5)) (n2 := 1) (L := seed ++ [1]) SS.out.1 rfl rfl (SS.out.2.below al) (lits_row w2 (Nat.zero_le _) [1] (by decide)).bsa (by rw [List.length_append, SS.out.1]; simp; omega))
  replace TT := hid (TT.out.below al)
  replace MM := hid (MM.out.below al)
  replace BB := hid (below_then BB.out al)
  clear H1 b2 al
  go_wp2_with fail
  refine H2.out.mono ?_
  rintro e w3 ⟨A3, c3, rfl, r3, b3⟩
  replace TT := hid (TT.out.below b3)
  replace MM := hid (MM.out.below b3)
  replace BB := hid (below_then BB.out b3)
  obtain ⟨n3, hn3⟩ : ∃ n3, n3 = (seed ++ [1]).length := ⟨_, rfl⟩
  obtain ⟨d2, hd2⟩ : ∃ d2, d2 = dig (seed ++ [1]) := ⟨_, rfl⟩
  have H3 := rsum_dig (w := w3) hn3.symm r3.bsa (by rw [List.length_append, SS.out.1]; simp; omega)
  rw [← hd2] at H3
  have H4 := hid H3
  have HD2 := hid hd2
  rw [← hn3]
  clear H2 b3 r3 hn3 hd2 H3
  go_wp2_with fail
  refine H4.out.mono ?_
  rintro e w4 ⟨rfl, b4⟩
  replace TT := hid (TT.out.below b4)
  replace MM := hid (MM.out.below b4)
  replace BB := hid (below_then BB.out b4)
  obtain ⟨u1, u2, u3, u4, u5, u6, u7⟩ := MM.out
  have H5 := rdig_any 256 0 rfl w4 A1 c1 n1 L u1 u5.1 u5.2.1 u5.2.2.1 u2 (by omega)
  have ET := hid MM.out.same
  obtain ⟨ll, hll⟩ : ∃ ll, ll = mapI L := ⟨_, rfl⟩
  have TL : Told ll := by
    rw [hll]
    refine ⟨u7.good.perm u6.symm, fun y hy => ?_⟩
    have hm := u6.mem_iff.1 hy
    obtain ⟨b, _, e⟩ := u7.key y hm
    exact ⟨by rw [e]; rfl, u7.row y hm⟩
  rw [← hll] at H5
  obtain ⟨dt, hdt⟩ : ∃ dt, dt = digS (treeF 256 ll) := ⟨_, rfl⟩
  rw [← hdt] at H5
  have H6 := hid H5
  have HTL := hid (And.intro TL (And.intro hll hdt))
  clear H4 b4 u1 u2 u3 u4 u5 u6 u7 H5 hll hdt TL
  go_wp2_with fail
  refine H6.out.mono ?_
  rintro e w5 ⟨rfl, b5⟩
  replace TT := hid (TT.out.below b5)
  replace MM := hid (MM.out.below b5)
  replace BB := hid (below_then BB.out b5)
  have H7 := hid (rlinkBytes_any (w := w5) (a := d1) (b := dt) (d := d2) (by rw [HD1.out, dig_size]; decide) (by rw [HTL.out.2.2, digS_size]; decide) (by rw [HD2.out, dig_size]; decide))
  clear H6 b5
  go_wp2_with fail
  refine H7.out.mono ?_
  rintro e w6 ⟨A6, c6, rfl, r6, b6⟩
  replace TT := hid (TT.out.below b6)
  replace MM := hid (MM.out.below b6)
  replace BB := hid (below_then BB.out b6)
  obtain ⟨T6, hT6⟩ : ∃ T6, T6 = linkB d1.data.toList dt.data.toList d2.data.toList := ⟨_, rfl⟩
  rw [← hT6] at r6 ⊢
  obtain ⟨n6, hn6⟩ : ∃ n6, n6 = T6.length := ⟨_, rfl⟩
  have H8 := hid (rsum_dig (w := w6) hn6.symm r6 (by
    have q1 : d1.data.toList.length = 32 := by rw [HD1.out, dig_list, sum256_length]
    have q2 : dt.data.toList.length = 32 := by rw [HTL.out.2.2, digS_list, dig_len]
    have q3 : d2.data.toList.length = 32 := by rw [HD2.out, dig_list, sum256_length]
    rw [hT6, linkB_length]; omega))
  obtain ⟨d8, hd8⟩ : ∃ d8, d8 = dig T6 := ⟨_, rfl⟩
  rw [← hd8] at H8
  rw [← hn6]
  have HD8 := hid (show d8 = dig (linkB (dig seed).data.toList (treeF 256 ll).dig (dig (seed ++ [1])).data.toList) by rw [hd8, hT6, HTL.out.2.2, digS_list, HD1.out, HD2.out])
  clear H7 b6 r6 hT6 hn6 hd8
  go_wp2_with fail
  refine H8.out.mono ?_
  rintro e w7 ⟨rfl, b7⟩
  replace TT := hid (TT.out.below b7)
  replace MM := hid (MM.out.below b7)
  replace BB := hid (below_then BB.out b7)
  have H9 := hid (get_any (c := c1) (key := key) MM.out.1 MM.out.2.2.2.2.1.1 (by have := MM.out.2.2.1; omega))
  clear H8 b7
  go_wp2_with fail
  refine H9.out.mono ?_
  rintro e w8 ⟨A8, m8, c8, ok, row, rfl, HG, rfl⟩
  have HB := hid (build_tree (key := key) TT.out MM.out.2.2.2.1 (by omega) (treeF_ht 256 li) (treeF_small 256 li (fun x hx => by have := MM.out.2.2.2.2.2.2.row x hx; omega)))
  rw [← ET.out, ← HTL.out.2.1] at HB
  have G8 := hid (show row.length = m8 ∧ BSA w7 A8 c8 row ∧ getI ll key = (if ok then some row else none) ∧ (ok = false → row = []) from ⟨HG.out.1, HG.out.2.1, by rw [HTL.out.2.1]; exact HG.out.2.2.1, HG.out.2.2.2⟩)
  clear H9 HG
  go_wp2_with fail
  refine HB.out.mono ?_
  rintro e w9 ⟨A9, c9, B9, k9, rfl, x9, r9, b9⟩
  replace BB := hid (below_then BB.out b9)
  have R8 := hid (G8.out.2.1.below b9)
  obtain ⟨Y, hY⟩ : ∃ Y, Y = buildT (treeF 256 ll) key := ⟨_, rfl⟩
  have FY := built_fits HTL.out.1 key
  rw [← hY] at x9 r9 FY ⊢
  obtain ⟨y1, hy1⟩ : ∃ y1, y1 = Y.side.length := ⟨_, rfl⟩
  obtain ⟨y2, hy2⟩ : ∃ y2, y2 = Y.row.length := ⟨_, rfl⟩
  have hl := lay_length (last := d1) (sum := d2) (by rw [HD1.out]; exact dig_size _) (by rw [HD2.out]; exact dig_size _) FY
  have HL0 := lay_any (w := w9) (A := A9) (B := B9) (c := c9) (d := k9) (k := y1) (m := y2) (p := Y) (last := d1) (sum := d2) (by rw [HD1.out, dig_size]; decide) (by rw [HD2.out, dig_size]; decide) ⟨hy1.symm, hy2.symm, by rw [hy1]; have := FY.2.1; omega, x9.at_, r9.bsa⟩ (fits_holds FY) (by omega)
  obtain ⟨Q, hQ⟩ : ∃ Q, Q = layB d1 d2 Y := ⟨_, rfl⟩
  obtain ⟨nq, hnq⟩ : ∃ nq, nq = Q.length := ⟨_, rfl⟩
  rw [← hQ] at HL0
  have HL : Hid (Calls Tryd.prog 24 #[.string d1, .string d2, .agg #[.slice A9 y1 c9, .int .u8 (Y.kind.toNat : Int), .string Y.key, .slice B9 y2 k9]] w9 fun e w' => ∃ A' c', e = .returned (.slice A' nq c') ∧ Row w' w9.heap.size A' c' Q ∧ Below w9.heap.size w9 w') := hid (by rw [hnq]; exact HL0)
  have HQ := hid (And.intro hQ (And.intro hnq hY))
  unfold prfV
  rw [← hy1, ← hy2]
  clear HB x9 r9 b9 HL0 hl FY hY hQ hnq hy1 hy2
  go_wp2_with fail
  refine HL.out.mono ?_
  rintro e w10 ⟨A10, c10, rfl, r10, b10⟩
  have BF := below_then BB.out b10
  have RF := R8.out.below b10
  have QF := r10.bsa
  have EQ := HQ.out.1
  rw [HQ.out.2.2, HD1.out, HD2.out] at EQ
  rw [EQ] at QF
  have NQ := HQ.out.2.1
  rw [EQ] at NQ
  have NH := hid NQ
  clear NQ EQ
  go_wp2
  refine bodyPost_ret (results_tmp4 rfl _ _ _) rfl ?_
  exact ⟨d8, A8, m8, c8, A10, nq, c10, ok, ll, row, rfl, hid ⟨HTL.out.1, G8.out.1, RF, G8.out.2.2.1, G8.out.2.2.2, NH.out.symm, QF, HD8.out⟩, BF⟩
end Go.Proofs.YtcfjciencggflaaDoor

/- What shown's bytes are accepted for. -/
namespace Go.Proofs.YtcfjciencggflaaDoor
open Go.RowKit PrintLast

theorem accept_shown {ll : List Itm} (h : Told ll) (key last sum digest : ByteArray) (hl : last.size = 32) (hs : sum.size = 32) (r : List UInt8) (th : Bool) :
    acceptB digest key r th (layB last sum (buildT (treeF 256 ll) key)) = ((match getI ll key with | some row => th && decide (row = r) | none => !th && decide (r = [])) && decide (dig (linkB last.data.toList (treeF 256 ll).dig sum.data.toList) = digest)) := by
  rw [accept_some (readV_lay hl hs (built_fits h key)), tells_get h.1]
  congr 3
  show dig (linkB last.data.toList (sum256 (topS (pathK key) (endD key (buildT (treeF 256 ll) key)) 0 (buildT (treeF 256 ll) key).side)) sum.data.toList) = _
  rw [built_top]
section
variable {w : World} {seed : List UInt8} {key d : ByteArray} {A B : Option Addr} {m c n k : Nat} {ok : Bool} {ll : List Itm} {row : List UInt8}
theorem ShownAt.acc (h : ShownAt w seed key d A m c B n k ok ll row) (digest : ByteArray) (r : List UInt8) (th : Bool) :
    acceptB digest key r th (layB (dig seed) (dig (seed ++ [1])) (buildT (treeF 256 ll) key)) = (decide (th = ok) && decide (row = r) && decide (d = digest)) := by
  obtain ⟨h1, _, _, h4, h5, _, _, h8⟩ := h
  rw [accept_shown h1 _ _ _ _ (dig_size _) (dig_size _), h4, ← h8]
  cases ok with
  | true => cases th <;> simp
  | false =>
    have hr := h5 rfl
    subst hr
    cases th <;> simp
    all_goals (congr 1; exact eq_comm)
end
end Go.Proofs.YtcfjciencggflaaDoor
