/- TopSkew's walks: the keys of a small map, rising. -/
import Derived.Test.YtnidgljkbmceaaaGreatDoorG06
import Derived.Test.YtnidgljkbmceaaaGreatDoorG07
import Derived.Test.YtnidgljkbmceaaaGreatDoorPn
import Derived.Test.YtnidgljkbmceaaaGreatDoorG05
import Derived.Laws.ResultCell
import Derived.Laws.Rows
set_option linter.unusedVariables false
set_option linter.unusedSimpArgs false
namespace Go.Proofs.YtnidgljkbmceaaaGreatDoor
open Go.RowKit PrintLast Go.Maps Go.MapKept
open Go.WideElems (Fit rd rg)
open Go.Sort Go.Shelf
def anyR (_ : Value) : Option (DataW Unit × List MemPlace) := some (.lit (.bool true), [])
theorem fit_any {es : Array MapEntry} {n : Nat} (hs : es.size ≤ maxLen) (hst : Stamped es n) (hk : ∀ x ∈ es.toList, ∃ s : ByteArray, x.key = .string s ∧ s.size ≤ maxLen) : Fit (H := Unit) Tryz.prog 9 anyR es n := by
  refine ⟨hs, hst, fun x hx => ?_⟩
  obtain ⟨s, e, hl⟩ := hk x hx
  unfold WideElems.rd
  rw [e, WideMaps.keyOf_string_mk Tryz.underlying9 hl]
  exact ⟨_, rfl⟩
theorem rg_any {k : ByteArray} {v : Value} {n : Nat} (hl : k.size ≤ maxLen) : rg (H := Unit) Tryz.prog 9 anyR (entS k v n) = (.string k.data.toList, .lit (.bool true)) := by
  unfold WideElems.rg WideElems.rd
  rw [show (entS k v n).key = .string k from rfl, WideMaps.keyOf_string_mk Tryz.underlying9 hl]
  rfl
theorem own_one {w : World} {b : Nat} {k : ByteArray} {v : Value} (hb : w.heap[b]? = some (.map #[entS k v 0] 1)) (hl : k.size ≤ maxLen) : w.ownsMap Tryz.prog 9 anyR b 1 (.map [(.string k.data.toList, .lit (.bool true))]) := by
  refine ⟨_, _, hb, fit_any (by unfold maxLen; simp) ?_ ?_, by simp, ?_⟩
  · exact ⟨by simp [entS], by simp, by simp⟩
  · intro x hx
    simp at hx
    subst hx
    exact ⟨k, rfl, hl⟩
  · simp only [List.map_cons, List.map_nil, rg_any hl]
    rfl
theorem insert_two (a b : Lit × DataW Unit) : (strKeys (.map (DataW.insert a [b]))).Perm (strKeys (.map [a, b])) := by
  unfold DataW.insert DataW.insert
  split
  · exact List.Perm.refl _
  · exact List.Perm.swap _ _ _
theorem own_two {w : World} {b : Nat} {k k' : ByteArray} {v v' : Value} (hb : w.heap[b]? = some (.map #[entS k v 0, entS k' v' 1] 2)) (hl : k.size ≤ maxLen) (hl' : k'.size ≤ maxLen) (hne : k ≠ k') :
    ∃ D : DataW Unit, w.ownsMap Tryz.prog 9 anyR b 2 D ∧ (strKeys D).Perm [k.data.toList, k'.data.toList] ∧ Maps.size D = 2 := by
  refine ⟨.map (DataW.insert (.string k.data.toList, .lit (.bool true)) [(.string k'.data.toList, .lit (.bool true))]), ⟨_, _, hb, fit_any (by unfold maxLen; simp) ?_ ?_, by simp, ?_⟩, ?_, ?_⟩
  · exact ⟨by simp [entS], by simp [entS], by simp [entS, hne]⟩
  · intro x hx
    simp at hx
    rcases hx with rfl | rfl
    · exact ⟨k, rfl, hl⟩
    · exact ⟨k', rfl, hl'⟩
  · simp only [List.map_cons, List.map_nil, rg_any hl, rg_any hl']
    rfl
  · exact insert_two _ _
  · unfold DataW.insert DataW.insert
    split <;> rfl
theorem row_cell {w : World} {base n : Nat} {v : Value} {xs : List Value} (h : w.ownsRow base 9 1 v n xs) (h0 : 0 < n) : ∃ g c, v = .slice (some ⟨g, 0, none⟩) n c ∧ ∀ j u, xs[j]? = some u → w.cell? ⟨g, j, none⟩ = some u := by
  rcases h.2 with ⟨_, rfl⟩ | ⟨g, cap, cur, rfl, _⟩
  · have := h.1; omega
  · refine ⟨g, cap, rfl, fun j u hu => ?_⟩
    have := h.cells (g := g) rfl j u hu
    rwa [add_plain] at this
theorem sort_one (l : List (List UInt8)) (k : List UInt8) (h : l.Perm [k]) : l.length = 1 ∧ l.mergeSort (fun x y => decide (x ≤ y)) = [k] := by
  obtain rfl := List.perm_singleton.1 h
  exact ⟨rfl, by simp⟩
theorem sort_two (l : List (List UInt8)) (k k' : List UInt8) (h : l.Perm [k, k']) (hle : k ≤ k') : l.length = 2 ∧ l.mergeSort (fun x y => decide (x ≤ y)) = [k, k'] := by
  refine ⟨by rw [h.length_eq]; rfl, ?_⟩
  rw [show l.mergeSort (fun x y => decide (x ≤ y)) = l.mergeSort leB from rfl, mergeSort_of_perm h]
  refine List.mergeSort_of_pairwise ?_
  simp [leB, hle]
theorem wkeys_any {w : World} (mb : Option Nat) : Calls Tryz.prog 189 #[.map mb] w fun e w' => e = .returned (.func (.func 224) #[] #[.pointer (some ⟨w.heap.size, 0, none⟩)]) ∧ w' = w.alloc (.cells #[.map mb] 304) :=
  (callsIn_wide (n := 5)).1 (lay_maps_Keys_189 mb w)
theorem wsorted_one {w : World} {b : Nat} {k : ByteArray} {v : Value} (hb : w.heap[b]? = some (.map #[entS k v 0] 1)) (hl : k.size ≤ 1000) :
    Calls Tryz.prog 173 #[.func (.func 224) #[] #[.pointer (some ⟨w.heap.size, 0, none⟩)]] (w.alloc (.cells #[.map (some b)] 304)) fun e w' =>
      ∃ g c, e = .returned (.slice (some ⟨g, 0, none⟩) 1 c) ∧ w'.cell? ⟨g, 0, none⟩ = some (.string k) ∧ Below w.heap.size w w' := by
  refine ((callsIn_wide (n := 5)).1 (lay_slices_Sorted_keys_173_189 b 1 _ anyR w (own_one hb (by unfold maxLen; omega)) (by show 1 ≤ _; unfold maxLen; omega) (by show 1 * 16 ≤ _; omega))).mono ?_
  rintro e w' ⟨v, ss, rfl, hp, hrow, -, hb'⟩
  obtain ⟨h1, h2⟩ := sort_one ss k.data.toList hp
  rw [h1, h2] at hrow
  obtain ⟨g, c, rfl, hc⟩ := row_cell hrow (by omega)
  exact ⟨g, c, rfl, hc 0 _ rfl, below_then (below_alloc (Below.refl _ w) _) hb'⟩
theorem skeys_any {w : World} (mb : Option Nat) : Calls Tryz.prog 174 #[.map mb] w fun e w' => e = .returned (.func (.func 212) #[] #[.pointer (some ⟨w.heap.size, 0, none⟩)]) ∧ w' = w.alloc (.cells #[.map mb] 135) :=
  (callsIn_wide (n := 5)).1 (lay_maps_Keys_174 mb w)
theorem ssorted_one {w : World} {b : Nat} {k : ByteArray} {v : Value} (hb : w.heap[b]? = some (.map #[entS k v 0] 1)) (hl : k.size ≤ 1000) :
    Calls Tryz.prog 173 #[.func (.func 212) #[] #[.pointer (some ⟨w.heap.size, 0, none⟩)]] (w.alloc (.cells #[.map (some b)] 135)) fun e w' =>
      ∃ g c, e = .returned (.slice (some ⟨g, 0, none⟩) 1 c) ∧ w'.cell? ⟨g, 0, none⟩ = some (.string k) ∧ Below w.heap.size w w' := by
  refine ((callsIn_wide (n := 5)).1 (lay_slices_Sorted_keys_173_174 b 1 _ anyR w (own_one hb (by unfold maxLen; omega)) (by show 1 ≤ _; unfold maxLen; omega) (by show 1 * 16 ≤ _; omega))).mono ?_
  rintro e w' ⟨v, ss, rfl, hp, hrow, -, hb'⟩
  obtain ⟨h1, h2⟩ := sort_one ss k.data.toList hp
  rw [h1, h2] at hrow
  obtain ⟨g, c, rfl, hc⟩ := row_cell hrow (by omega)
  exact ⟨g, c, rfl, hc 0 _ rfl, below_then (below_alloc (Below.refl _ w) _) hb'⟩
theorem ssorted_two {w : World} {b : Nat} {k k' : ByteArray} {v v' : Value} (hb : w.heap[b]? = some (.map #[entS k v 0, entS k' v' 1] 2)) (hl : k.size ≤ 1000) (hl' : k'.size ≤ 1000) (hne : k ≠ k') (hle : k.data.toList ≤ k'.data.toList) :
    Calls Tryz.prog 173 #[.func (.func 212) #[] #[.pointer (some ⟨w.heap.size, 0, none⟩)]] (w.alloc (.cells #[.map (some b)] 135)) fun e w' =>
      ∃ g c, e = .returned (.slice (some ⟨g, 0, none⟩) 2 c) ∧ w'.cell? ⟨g, 0, none⟩ = some (.string k) ∧ w'.cell? ⟨g, 1, none⟩ = some (.string k') ∧ Below w.heap.size w w' := by
  obtain ⟨D, hD, hP, hS⟩ := own_two hb (by unfold maxLen; omega) (by unfold maxLen; omega) hne
  refine ((callsIn_wide (n := 5)).1 (lay_slices_Sorted_keys_173_174 b 2 D anyR w hD (by rw [hS]; unfold maxLen; omega) (by rw [hS]; omega))).mono ?_
  rintro e w' ⟨v, ss, rfl, hp, hrow, -, hb'⟩
  obtain ⟨h1, h2⟩ := sort_two ss k.data.toList k'.data.toList (hp.trans hP) hle
  rw [h1, h2] at hrow
  obtain ⟨g, c, rfl, hc⟩ := row_cell hrow (by omega)
  exact ⟨g, c, rfl, hc 0 _ rfl, hc 1 _ rfl, below_then (below_alloc (Below.refl _ w) _) hb'⟩
theorem clen_nil {w : World} : Calls Tryz.prog 214 #[.pointer none] w fun e w' => e = .returned (.int .i64 0) ∧ w = w' := by
  go_enter Tryz.func214, Tryz.ntmps214
  go_wp2
  go_ret
  exact ⟨rfl, rfl⟩
theorem clast_nil {w : World} : Calls Tryz.prog 251 #[.pointer none] w fun e w' => e = .returned (.int .i64 0) ∧ w = w' := by
  go_enter Tryz.func251, Tryz.ntmps251
  go_wp2
  go_ret
  exact ⟨rfl, rfl⟩
theorem cseen_nil {w : World} (x : Int) : Calls Tryz.prog 175 #[.pointer none, .int .i64 x] w fun e w' => e = .returned (.int .i64 (-1)) ∧ Below w.heap.size w w' := by
  go_enter Tryz.func175, Tryz.ntmps175
  go_wp2_with fail
  refine clen_nil.mono ?_
  rintro e w1 ⟨rfl, rfl⟩
  go_wp2_with go_in
  refine wp_loop_rounds 1 ?_
  rw [rounds_succ]
  go_wp2
  go_ret
  exact ⟨rfl, by go_grown⟩
theorem cnew_any {w : World} : Calls Tryz.prog 120 #[] w fun e w' => e = .returned (.pointer (some ⟨w.heap.size, 0, none⟩)) ∧ w'.heap[w.heap.size]? = some (.cells #[.slice none 0 0, .int .i64 0] 293 (0, 0)) ∧ Below w.heap.size w w' := by
  go_enter Tryz.func120, Tryz.ntmps120
  go_wp2
  go_ret
  exact ⟨rfl, heap_alloc_new _ _, by go_grown⟩
theorem infoV : (Tryz.prog.info? 295).map (fun i => (i.zero, i.size, i.bytes)) = some (some (.agg #[.int .i64 0, .slice none 0 0, .bool false]), 3, 40) := by kernel_rfl
theorem own_typed {w : World} {base e size n : Nat} {v : Value} {xs : List Value} (h : w.ownsRow base e size v n xs) {k : Nat} (hk : v.ownBlock = some k) : ∃ cur, w.heap[k]? = some (.cells cur e (0, 0)) := by
  rcases h.2 with ⟨rfl, _⟩ | ⟨g, cap, cur, rfl, _, hh, _⟩
  · cases hk
  · cases hk; exact ⟨cur, hh⟩
theorem own_keeps {w w' : World} {ts : List TypeId} {ms rs : List Nat} {base e size n : Nat} {v : Value} {xs : List Value} (h : w.ownsRow base e size v n xs) (hk : KT ts ms rs w w') (ht : e ∉ ts ∧ e ≠ 5) : w'.ownsRow base e size v n xs := by
  refine Keeps.own hk h (fun k e => ?_)
  rintro ⟨o, ho, q⟩
  obtain ⟨cur, hc⟩ := own_typed h e
  rw [hc] at ho
  cases ho
  exact q.elim ht.1 (fun q => ht.2 q.1)
def ChainK (w : World) (C : Nat) (at_ : Int) : Prop := ∃ V c rv, w.heap[C]? = some (.cells #[.slice (some ⟨V, 0, none⟩) 1 c, .int .i64 at_] 293 (0, 0)) ∧ w.ownsRow 0 295 3 (.slice (some ⟨V, 0, none⟩) 1 c) 1 [.int .i64 at_, rv, .bool false] ∧ rv.oneCell' = true
theorem ChainK.keeps {w w' : World} {ts : List TypeId} {ms rs : List Nat} {C : Nat} {at_ : Int} (h : ChainK w C at_) (hk : KT ts ms rs w w') (ht : 293 ∉ ts ∧ 295 ∉ ts) : ChainK w' C at_ := by
  obtain ⟨V, c, rv, h1, h2, h3⟩ := h
  exact ⟨V, c, rv, hk.cells h1 ⟨ht.1, by decide⟩, own_keeps h2 hk ⟨ht.2, by decide⟩, h3⟩
theorem ChainK.below {w w' : World} {C : Nat} {at_ : Int} (h : ChainK w C at_) (hb : Below w.heap.size w w') : ChainK w' C at_ := h.keeps (KT.of_below (ts := []) (ms := []) (rs := []) hb) (by decide)
theorem ChainK.lt {w : World} {C : Nat} {at_ : Int} (h : ChainK w C at_) : C < w.heap.size := let ⟨_, _, _, h1, _⟩ := h; lt_of_block h1
theorem ChainK.other {w w' : World} {C D : Nat} {at_ : Int} (h : ChainK w C at_) (hk : Keeps (fun k => k = D) w w') (hD : ∃ cs, w.heap[D]? = some (.cells cs 293 (0, 0))) (hne : C ≠ D) : ChainK w' C at_ := by
  obtain ⟨V, c, rv, h1, h2, h3⟩ := h
  obtain ⟨cs, hD⟩ := hD
  refine ⟨V, c, rv, hk.heap h1 hne, Keeps.own hk h2 (fun k e hk' => ?_), h3⟩
  obtain ⟨cur, hc⟩ := own_typed h2 e
  rw [hk', hD] at hc
  injection hc with hc
  injection hc with _ hc
  exact absurd hc (by decide)
set_option maxRecDepth 100000 in
set_option maxHeartbeats 1600000 in
theorem cput_any {w : World} {b : Nat} {x : Int} {A : Option Addr} {n c : Nat} {row : List UInt8} (h : w.heap[b]? = some (.cells #[.slice none 0 0, .int .i64 0] 293 (0, 0))) (hx : 0 < x) (hn : row.length = n) (hrow : BSA w A c row) (hbig : n ≤ 1000000) :
    Calls Tryz.prog 121 #[.pointer (some ⟨b, 0, none⟩), .int .i64 x, .slice A n c, .bool false] w fun e w' => e = .returned (.int .i64 0) ∧ ChainK w' b x ∧ Keeps (fun k => k = b) w w' := by
  subst hn
  obtain ⟨i0, hi, hz0, hz1, hz2⟩ := info_parts infoV
  have HC := hid (clone_any (show BSA w.drew A c row from hrow) (by omega))
  have e1 := cell_at h (i := 1) (v := .int .i64 0) rfl
  have e0 := cell_at h (i := 0) (v := .slice none 0 0) rfl
  have hx' : ¬ x ≤ 0 := by omega
  go_enter Tryz.func121, Tryz.ntmps121
  go_wp2
  refine start_ (n := 15) (S := fun w' => w'.cell? ⟨b, 0, none⟩ = some (.slice none 0 0)) (ds := [14]) (tf 15 0) (by kernel_rfl) rfl rfl (e0) (fun hHeld => ?_); refine pure_ (i := 0) (N := some 19) (v := ?_) (a' := ?_) (tf 15 1) rfl rfl (by kernel_rfl) (fun _ _ _ h => h) (Or.inl ⟨by rfl, ?_⟩) ?_ ?_; rotate_left; (· intro w'; go_simp; (with_reducible rfl)); rotate_left; (· simp only [pn_]; rfl); refine pure_ (i := 1) (N := some 20) (v := ?_) (a' := ?_) (tf 15 3) rfl rfl (by kernel_rfl) (fun _ _ _ h => h) (Or.inl ⟨by rfl, ?_⟩) ?_ ?_; rotate_left; (· intro w'; go_simp; (with_reducible rfl)); rotate_left; (· simp only [pn_]; rfl); refine pure_ (i := 2) (N := some 21) (v := ?_) (a' := ?_) (tf 15 7) rfl rfl (by kernel_rfl) (fun _ _ _ h => h) (Or.inl ⟨by rfl, ?_⟩) ?_ ?_; rotate_left; (· intro w'; go_simp; (with_reducible rfl)); rotate_left; (· simp only [pn_]; rfl); refine pure_ (i := 3) (N := some 22) (v := ?_) (a' := ?_) (tf 15 15) rfl rfl (by kernel_rfl) (fun _ _ _ h => h) (Or.inl ⟨by rfl, ?_⟩) ?_ ?_; rotate_left; (· intro w'; go_simp; (with_reducible rfl)); rotate_left; (· simp only [pn_]; rfl); refine pure_ (i := 5) (N := some 24) (v := ?_) (a' := ?_) (tf 15 47) rfl rfl (by kernel_rfl) (fun _ _ _ h => h) (Or.inl ⟨by rfl, ?_⟩) ?_ ?_; rotate_left; (· intro w'; go_simp; (with_reducible rfl)); rotate_left; (· simp only [pn_]; rfl); refine pure_ (i := 6) (N := some 25) (v := ?_) (a' := ?_) (tf 15 111) rfl rfl (by kernel_rfl) (fun _ _ _ h => h) (Or.inl ⟨by rfl, ?_⟩) ?_ ?_; rotate_left; (· intro w'; go_simp; (with_reducible rfl)); rotate_left; (· simp only [pn_]; rfl); refine pure_ (i := 8) (N := some 27) (v := ?_) (a' := ?_) (tf 15 367) rfl rfl (by kernel_rfl) (fun _ _ _ h => h) (Or.inl ⟨by rfl, ?_⟩) ?_ ?_; rotate_left; (· intro w'; go_simp; (with_reducible rfl)); rotate_left; (· simp only [pn_]; rfl); refine take_ (i := 4) (N := some 23) (v := ?_) (a' := ?_) (tf 15 383) rfl rfl (by kernel_rfl) (fun _ _ _ h => h) (Or.inl ⟨by rfl, ?_⟩) hHeld ?_ ?_; rotate_left; (· intro w' s0; go_simp; (with_reducible rfl)); rotate_left; (· simp only [pn_]; rfl); refine one_ (i := 7) (N := some 26) (tf 15 511) rfl rfl (by kernel_rfl) (by decide) (fun K hK => ?_); refine goes_ Tryz.func18 (by kernel_rfl) rfl #[.slice A row.length c] (by rfl) rfl rfl (by simp only [List.map_toArray, List.map_cons, List.map_nil]; rfl) ?_; (with_reducible refine (HC.out).mono ?_); rintro e w1 ⟨R, cR, rfl, k1, k2, k3⟩; refine ⟨_, rfl, ?_⟩; have f0 := below_heap k3 h; refine hK.out _ _ (below_cell k3 e0) (fun hHeld => ?_); clear hK K; refine norm_ (a' := ?_) ?_ ?_; rotate_left; (· show Act.put _ (some 26) _ = _; simp only [pn_]; rfl); refine pure_ (i := 9) (N := some 28) (v := ?_) (a' := ?_) (tf 15 1023) rfl rfl (by kernel_rfl) (fun _ _ _ h => h) (Or.inl ⟨by rfl, ?_⟩) ?_ ?_; rotate_left; (· intro w'; go_simp; (with_reducible rfl)); rotate_left; (· simp only [pn_]; rfl); refine one_ (i := 10) (N := some 29) (tf 15 2047) rfl rfl (by kernel_rfl) (by decide) (fun K hK => ?_); refine value_ (w1 := ?_) (v := ?_) (by rfl) rfl ?_ ?_; rotate_left 2; (· go_simp; constructor; (· rfl); (· rfl)); refine hK.out _ _ (below_cell (below_alloc (Below.refl _ w1) _) (below_cell k3 e0)) (fun hHeld => ?_); clear hK K; refine norm_ (a' := ?_) ?_ ?_; rotate_left; (· show Act.put _ (some 29) _ = _; simp only [pn_]; rfl); refine one_ (i := 11) (N := some 30) (tf 15 4095) rfl rfl (by kernel_rfl) (by decide) (fun K hK => ?_); refine step_app rfl (.tmp 23) (.tmp 29) 291 rfl 295 i0 (.agg #[.int .i64 0, .slice none 0 0, .bool false]) 3 40 Tryz.underlying291 hi hz0 hz1 hz2 rfl (by decide) _ 0 [] rfl (World.ownsRow_nil _ _ _ _) (some ⟨w1.heap.size, 0, none⟩) 1 1 [.int .i64 x, .slice R row.length cR, .bool false] rfl rfl (fun e => by cases e) ?_ ?_ (by unfold maxLen; omega) (by omega) ?_; (· intro ad e j u hu; cases e; rw [add_plain]; exact cell_at (heap_alloc_new _ _) (by simpa using hu))
  · intro u hu; simp at hu; rcases hu with rfl | rfl | rfl <;> rfl
  intro A2 c2 w2 m1 m2 m3 m4; have f1 := (m2.block b (by have := lt_of_block f0; simp; omega) (fun e => by cases e)).trans (below_heap (below_alloc (Below.refl _ w1) _) f0); have d0 := cell_at f1 (i := 0) (v := .slice none 0 0) rfl; have d1 := free_at f1 0; refine hK.out _ _ (d0) (fun hHeld => ?_); clear hK K; refine norm_ (a' := ?_) ?_ ?_; rotate_left; (· show Act.put _ (some 30) _ = _; simp only [pn_]; rfl); refine pure_ (i := 12) (N := some 31) (v := ?_) (a' := ?_) (tf 15 8191) rfl rfl (by kernel_rfl) (fun _ _ _ h => h) (Or.inl ⟨by rfl, ?_⟩) ?_ ?_; rotate_left; (· intro w'; go_simp; (with_reducible rfl)); rotate_left; (· simp only [pn_]; rfl); refine pure_ (i := 13) (N := some 32) (v := ?_) (a' := ?_) (tf 15 16383) rfl rfl (by kernel_rfl) (fun _ _ _ h => h) (Or.inl ⟨by rfl, ?_⟩) ?_ ?_; rotate_left; (· intro w'; go_simp; (with_reducible rfl)); rotate_left; (· simp only [pn_]; rfl); refine last_ (i := 14) (N := none) (tf 15 32767) rfl rfl (by kernel_rfl) (by decide) (fun K hK => ?_); refine skip_ (w1 := ?_) (by rfl) rfl ?_ ?_; rotate_left; (· go_simp; rfl); refine hK.out _ _ ?_; clear hK K; refine done_ (by kernel_rfl) ?_
  have FIN : ChainK ((w2.setCell ⟨b, 0, none⟩ (.slice A2 (0 + 1) c2)).setCell ⟨b, 1, none⟩ (.int .i64 x)) b x ∧ Keeps (fun k => k = b) w ((w2.setCell ⟨b, 0, none⟩ (.slice A2 (0 + 1) c2)).setCell ⟨b, 1, none⟩ (.int .i64 x)) := by
    have K0 : Keeps (fun k => k = b) w ((w2.setCell ⟨b, 0, none⟩ (.slice A2 (0 + 1) c2)).setCell ⟨b, 1, none⟩ (.int .i64 x)) :=
      ((((Keeps.refl (fun k => k = b) w).drew.below k3).alloc _).grown m2 (fun k e _ => by cases e)).setCell (p := ⟨b, 0, none⟩) (fun _ => rfl) _ |>.setCell (p := ⟨b, 1, none⟩) (fun _ => rfl) _
    have K1 : Keeps (fun k => k = b) w2 ((w2.setCell ⟨b, 0, none⟩ (.slice A2 (0 + 1) c2)).setCell ⟨b, 1, none⟩ (.int .i64 x)) :=
      ((Keeps.refl (fun k => k = b) w2).setCell (p := ⟨b, 0, none⟩) (fun _ => rfl) _).setCell (p := ⟨b, 1, none⟩) (fun _ => rfl) _
    have f9 : ((w2.setCell ⟨b, 0, none⟩ (.slice A2 (0 + 1) c2)).setCell ⟨b, 1, none⟩ (.int .i64 x)).heap[b]? = some (.cells #[.slice A2 1 c2, .int .i64 x] 293 (0, 0)) := by rw [heap_set (heap_set f1)]; rfl
    have m1' := m1
    rw [List.nil_append, Nat.zero_add] at m1'
    obtain ⟨V, e2⟩ : ∃ V, A2 = some ⟨V, 0, none⟩ := by
      rcases m1'.2 with ⟨e, _⟩ | ⟨g, cap, cur, e, _⟩
      · cases e
      · cases e; exact ⟨g, rfl⟩
    subst e2
    refine ⟨⟨V, c2, .slice R row.length cR, f9, Keeps.own K1 m1' (fun k e hk => ?_), rfl⟩, K0⟩
    obtain ⟨cur, hc⟩ := own_typed m1' e
    rw [hk, f1] at hc
    injection hc with hc
    injection hc with _ hc
    exact absurd hc (by decide)
  have FF := hid FIN
  have d2 := cell_at f1 (i := 1) (v := .int .i64 0) rfl
  have d3 := free_at f1 1
  clear FIN
  go_wp2
  go_ret
  exact ⟨rfl, FF.out⟩
theorem clen_one {w : World} {C : Nat} {at_ : Int} (h : ChainK w C at_) : Calls Tryz.prog 214 #[.pointer (some ⟨C, 0, none⟩)] w fun e w' => e = .returned (.int .i64 1) ∧ w = w' := by
  obtain ⟨V, c, rv, h1, -, -⟩ := h
  have e0 := cell_at h1 (i := 0) rfl
  clear h1
  go_enter Tryz.func214, Tryz.ntmps214
  go_wp2
  go_ret
  exact ⟨rfl, rfl⟩
theorem own_cap {w : World} {base e n : Nat} {g m c : Nat} {xs : List Value} (h : w.ownsRow base e 3 (.slice (some ⟨g, 0, none⟩) m c) n xs) (h0 : 0 < n) : n ≤ c ∧ c ≤ maxLen := by
  rcases h.2 with ⟨_, h1⟩ | ⟨g', cap, cur, e', _, _, h1, h2, _⟩
  · omega
  · cases e'; exact ⟨h1, h2⟩
set_option maxRecDepth 100000 in
set_option maxHeartbeats 800000 in
theorem cseen1_any {w : World} {C B0 B1 : Nat} {at_ x : Int} {t0 t1 : TypeId} (h : ChainK w C at_) (h0 : w.heap[B0]? = some (.cells #[.pointer (some ⟨C, 0, none⟩)] t0 (0, 0))) (h1 : w.heap[B1]? = some (.cells #[.int .i64 x] t1 (0, 0))) :
    Calls Tryz.prog 215 #[.int .i64 0, .pointer (some ⟨B0, 0, none⟩), .pointer (some ⟨B1, 0, none⟩)] w fun e w' => e = .returned (.bool (decide (x < at_))) ∧ Below w.heap.size w w' := by
  obtain ⟨g, c, rv, g1, g2, -⟩ := h
  obtain ⟨hc1, hc2⟩ := own_cap g2 (by omega)
  unfold maxLen at hc2
  have ca : w.cell? ⟨g, 0, none⟩ = some (.int .i64 at_) := by
    have := g2.cells (g := g) rfl 0 (.int .i64 at_) rfl
    rw [add_plain] at this; exact this
  have c0 := cell_at g1 (i := 0) (v := .slice (some ⟨g, 0, none⟩) 1 c) rfl
  have d0 := cell_of_one h0
  have d1 := cell_of_one h1
  clear g1 g2 h0 h1
  go_enter Tryz.func215, Tryz.ntmps215
  go_wp2
  refine start_ (n := 11) (S := fun w' => w'.cell? ⟨B0, 0, none⟩ = some (.pointer (some ⟨C, 0, none⟩)) ∧ w'.cell? ⟨B1, 0, none⟩ = some (.int .i64 x) ∧ w'.cell? ⟨C, 0, none⟩ = some (.slice (some ⟨g, 0, none⟩) 1 c) ∧ w'.cell? ⟨g, 0, none⟩ = some (.int .i64 at_)) (ds := []) (tf 11 0) (by kernel_rfl) rfl rfl ⟨d0, d1, c0, ca⟩ (fun hHeld => ?_); refine pure_ (i := 4) (N := some 9) (v := ?_) (a' := ?_) (tf 11 16) rfl rfl (by kernel_rfl) (fun _ _ _ h => h) (Or.inl ⟨by rfl, ?_⟩) ?_ ?_; rotate_left; (· intro w'; go_simp; (with_reducible rfl)); rotate_left; (· simp only [pn_]; rfl); refine take_ (i := 0) (N := some 5) (v := ?_) (a' := ?_) (tf 11 17) rfl rfl (by kernel_rfl) (fun _ _ _ h => h) (Or.inl ⟨by rfl, ?_⟩) hHeld ?_ ?_; rotate_left; (· rintro w' ⟨s0, s1, s2, s3⟩; go_simp; (with_reducible rfl)); rotate_left; (· simp only [pn_]; rfl); refine pure_ (i := 1) (N := some 6) (v := ?_) (a' := ?_) (tf 11 19) rfl rfl (by kernel_rfl) (fun _ _ _ h => h) (Or.inl ⟨by rfl, ?_⟩) ?_ ?_; rotate_left; (· intro w'; go_simp; (with_reducible rfl)); rotate_left; (· simp only [pn_]; rfl); refine pure_ (i := 2) (N := some 7) (v := ?_) (a' := ?_) (tf 11 23) rfl rfl (by kernel_rfl) (fun _ _ _ h => h) (Or.inl ⟨by rfl, ?_⟩) ?_ ?_; rotate_left; (· intro w'; go_simp; (with_reducible rfl)); rotate_left; (· simp only [pn_]; rfl); refine take_ (i := 3) (N := some 8) (v := ?_) (a' := ?_) (tf 11 31) rfl rfl (by kernel_rfl) (fun _ _ _ h => h) (Or.inl ⟨by rfl, ?_⟩) hHeld ?_ ?_; rotate_left; (· rintro w' ⟨s0, s1, s2, s3⟩; go_simp; (with_reducible rfl)); rotate_left; (· simp only [pn_]; rfl); refine pure_ (i := 5) (N := some 10) (v := ?_) (a' := ?_) (tf 11 63) rfl rfl (by kernel_rfl) (fun _ _ _ h => h) (Or.inl ⟨by rfl, ?_⟩) ?_ ?_; rotate_left; (· intro w'; go_simp; (with_reducible rfl)); rotate_left; (· simp only [pn_]; rfl); refine pure_ (i := 6) (N := some 11) (v := ?_) (a' := ?_) (tf 11 127) rfl rfl (by kernel_rfl) (fun _ _ _ h => h) (Or.inl ⟨by rfl, ?_⟩) ?_ ?_; rotate_left; (· intro w'; go_simp; (with_reducible rfl)); rotate_left; (· simp only [pn_]; rfl); refine take_ (i := 7) (N := some 12) (v := ?_) (a' := ?_) (tf 11 255) rfl rfl (by kernel_rfl) (fun _ _ _ h => h) (Or.inl ⟨by rfl, ?_⟩) hHeld ?_ ?_; rotate_left; (· rintro w' ⟨s0, s1, s2, s3⟩; go_simp; (with_reducible rfl)); rotate_left; (· simp only [pn_]; rfl); refine take_ (i := 8) (N := some 13) (v := ?_) (a' := ?_) (tf 11 511) rfl rfl (by kernel_rfl) (fun _ _ _ h => h) (Or.inl ⟨by rfl, ?_⟩) hHeld ?_ ?_; rotate_left; (· rintro w' ⟨s0, s1, s2, s3⟩; go_simp; (with_reducible rfl)); rotate_left; (· simp only [pn_]; rfl); refine pure_ (i := 9) (N := some 14) (v := ?_) (a' := ?_) (tf 11 1023) rfl rfl (by kernel_rfl) (fun _ _ _ h => h) (Or.inl ⟨by rfl, ?_⟩) ?_ ?_; rotate_left; (· intro w'; go_simp; (with_reducible rfl)); rotate_left; (· simp only [pn_]; rfl); refine pure_ (i := 10) (N := some 4) (v := ?_) (a' := ?_) (tf 11 2047) rfl rfl (by kernel_rfl) (fun _ _ _ h => h) (Or.inl ⟨by rfl, ?_⟩) ?_ ?_; rotate_left; (· intro w'; go_simp; (with_reducible rfl)); rotate_left; (· simp only [pn_]; rfl); refine done_ (by kernel_rfl) ?_
  go_wp2
  go_ret
  exact ⟨rfl, (Below.refl _ w).drew⟩
def seenN : Bool → Int
  | true => -1
  | false => 0
set_option maxHeartbeats 800000 in
theorem cseen_one {w : World} {C : Nat} {at_ x : Int} {b : Bool} (h : ChainK w C at_) (hb : decide (x < at_) = b) : Calls Tryz.prog 175 #[.pointer (some ⟨C, 0, none⟩), .int .i64 x] w fun e w' => e = .returned (.int .i64 (seenN b)) ∧ Below w.heap.size w w' := by
  have al := below_alloc (below_alloc (Below.refl _ w) (.cells #[.pointer (some ⟨C, 0, none⟩)] 227)) (.cells #[.int .i64 x] 2)
  have hB0 := heap_alloc2_old w (.cells #[.pointer (some ⟨C, 0, none⟩)] 227) (.cells #[.int .i64 x] 2)
  have hB1 := heap_alloc2_new w (.cells #[.pointer (some ⟨C, 0, none⟩)] 227) (.cells #[.int .i64 x] 2)
  have S := hid (cseen1_any (h.below al) hB0 hB1)
  have L := hid (clen_one (h.below al))
  have AL := hid al
  clear h al hB0 hB1
  rw [hb] at S
  clear hb
  go_enter Tryz.func175, Tryz.ntmps175
  go_wp2_with fail
  refine L.out.mono ?_
  rintro e w1 ⟨rfl, rfl⟩
  go_wp2_with go_in
  refine wp_loop_rounds 2 ?_
  rw [rounds_succ]
  go_wp2_with fail
  refine S.out.mono ?_
  rintro e w2 ⟨rfl, b2⟩
  have B2 := hid (below_then AL.out b2)
  clear b2 S L AL
  cases b with
  | true =>
    go_wp2
    rw [rounds_succ]
    go_wp2
    go_ret
    exact ⟨rfl, B2.out⟩
  | false =>
    go_wp2
    rw [rounds_succ]
    go_wp2
    go_ret
    exact ⟨rfl, B2.out⟩
set_option maxHeartbeats 1600000 in
theorem ctrim_any {w : World} {C : Nat} {at_ x : Int} (h : ChainK w C at_) : Calls Tryz.prog 127 #[.pointer (some ⟨C, 0, none⟩), .int .i64 x] w fun e w' => e = .returned (.int .i64 0) ∧ ChainK w' C at_ ∧ Keeps (fun k => k = C) w w' := by
  obtain ⟨i0, ii, hz0, hz1, hz2⟩ := info_parts infoV
  obtain ⟨b, hb⟩ : ∃ b, decide (x < at_) = b := ⟨_, rfl⟩
  have S := hid (cseen_one (x := x) h hb)
  clear hb
  have HH := hid h
  clear h
  go_enter Tryz.func127, Tryz.ntmps127
  go_wp2_with fail
  refine S.out.mono ?_
  rintro e w1 ⟨rfl, b1⟩
  have H1 := HH.out.below b1
  have B1 := hid b1
  clear S b1
  cases b with
  | true =>
    rw [show seenN true = -1 from rfl]
    go_wp2
    go_ret
    exact ⟨rfl, H1, Keeps.of_below B1.out⟩
  | false =>
    rw [show seenN false = 0 from rfl]
    obtain ⟨g, c, rv, g1, g2, g3⟩ := H1
    obtain ⟨hc1, hc2⟩ := own_cap g2 (by omega)
    unfold maxLen at hc2
    have cg : w1.cell? ⟨g, 2, none⟩ = some (.bool false) := by
      have := g2.cells (g := g) rfl 2 (.bool false) rfl
      rw [add_plain] at this; exact this
    have news : ∀ ad, some (⟨g, 0, none⟩ : Addr) = some ad → ∀ (j : Nat) u, ([.int .i64 at_, rv, .bool false] : List Value)[j]? = some u → w1.cell? (ad.add j) = some u := fun ad e j u hu => by cases e; exact g2.cells (g := g) rfl j u hu
    have N := hid news
    have c0 := cell_at g1 (i := 0) (v := .slice (some ⟨g, 0, none⟩) 1 c) rfl
    have G1 := hid g1
    have G3 := hid g3
    clear news g1 g2 HH g3
    go_wp2_with (at_builtin; refine wpList_app rfl (.const (.slice none 0 0)) (.tmp 27) 291 rfl 295 i0 (.agg #[.int .i64 0, .slice none 0 0, .bool false]) 3 40 Tryz.underlying291 ii hz0 hz1 hz2 rfl (by decide) _ 0 [] rfl (World.ownsRow_nil _ _ _ _) (some ⟨g, 0, none⟩) 1 c [.int .i64 at_, rv, .bool false] rfl rfl (fun e => by cases e) N.out (by intro u hu; simp at hu; rcases hu with rfl | rfl | rfl <;> first | rfl | exact G3.out) (by unfold maxLen; omega) (by omega) ?_)
    intro A2 c2 w2 m1 m2 m3
    have f1 := (m2.block C (lt_of_block G1.out) (fun e => by cases e)).trans G1.out
    have FIN : ChainK (w2.setCell ⟨C, 0, none⟩ (.slice A2 1 c2)) C at_ ∧ Keeps (fun k => k = C) w (w2.setCell ⟨C, 0, none⟩ (.slice A2 1 c2)) := by
      have K0 : Keeps (fun k => k = C) w (w2.setCell ⟨C, 0, none⟩ (.slice A2 1 c2)) :=
        ((Keeps.refl (fun k => k = C) w).below B1.out).grown m2 (fun k e _ => by cases e) |>.setCell (p := ⟨C, 0, none⟩) (fun _ => rfl) _
      have K1 : Keeps (fun k => k = C) w2 (w2.setCell ⟨C, 0, none⟩ (.slice A2 1 c2)) := (Keeps.refl (fun k => k = C) w2).setCell (p := ⟨C, 0, none⟩) (fun _ => rfl) _
      have f9 : (w2.setCell ⟨C, 0, none⟩ (.slice A2 1 c2)).heap[C]? = some (.cells #[.slice A2 1 c2, .int .i64 at_] 293 (0, 0)) := by rw [heap_set f1]; rfl
      have m1' := m1
      try simp only [List.nil_append, Nat.zero_add] at m1'
      obtain ⟨V, e2⟩ : ∃ V, A2 = some ⟨V, 0, none⟩ := by
        rcases m1'.2 with ⟨e, _⟩ | ⟨g, cap, cur, e, _⟩
        · cases e
        · cases e; exact ⟨g, rfl⟩
      subst e2
      refine ⟨⟨V, c2, rv, f9, Keeps.own K1 m1' (fun k e hk => ?_), G3.out⟩, K0⟩
      obtain ⟨cur, hc⟩ := own_typed m1' e
      rw [hk, f1] at hc
      injection hc with hc
      injection hc with _ hc
      exact absurd hc (by decide)
    have FF := hid FIN
    have d2 := cell_at f1 (i := 0) (v := .slice (some ⟨g, 0, none⟩) 1 c) rfl
    have d3 := free_at f1 0
    clear FIN f1 m1 m2 m3
    go_wp2
    go_ret
    exact ⟨rfl, FF.out⟩
end Go.Proofs.YtnidgljkbmceaaaGreatDoor
namespace Go.Proofs.YtnidgljkbmceaaaGreatDoor
open Go.RowKit PrintLast
section
variable {w : World} {ops : Array Oper} {rest : List Oper} {o : Oper} {a : Act} {K : Act → World → Prop} {Q : Exit → Act → World → Prop} {E : Prop}
end
theorem str_beq (a b : ByteArray) : (a.toList == b.toList) = decide (a = b) := by
  cases a; cases b
  rw [ByteArray.toList_mk, ByteArray.toList_mk, Bool.eq_iff_iff]
  simp
theorem ret_cell_tmp {P : Program} {fn : Func} {p u : Tmp} {ty : TypeId} (h : fn.results = #[.cell p ty, .tmp u]) {tmps : Array Value} {w : World} {g : Nat} {cs : Array Value} {t : TypeId} {fr : Nat × Nat} {d : TypeDesc} (hp : tmps.getD p undef = .pointer (some ⟨g, 0, none⟩)) (hg : w.heap[g]? = some (.cells cs t fr))
    (hu : P.underlying ty = some d) (hd : (match d with | .struct _ | .array _ _ => true | _ => false) = true) (hi : (P.info? ty).map (·.size) = some cs.size) :
    (results fn tmps).run P w = .ok (.tuple #[.agg cs, tmps.getD u undef]) w := by
  rw [results_cell_tmp h, hp]
  simp [asAddr, Result.andThen, run_loadVar_row w g t ty cs fr d hg hu hd hi]
theorem alloc3 (w : World) (o1 o2 o3 : Obj) : (((w.alloc o1).alloc o2).alloc o3).heap[w.heap.size]? = some o1 ∧ (((w.alloc o1).alloc o2).alloc o3).heap[w.heap.size + 1]? = some o2 ∧ (((w.alloc o1).alloc o2).alloc o3).heap[w.heap.size + 1 + 1]? = some o3 ∧ Below w.heap.size w (((w.alloc o1).alloc o2).alloc o3) := by
  have s1 : (w.alloc o1).heap.size = w.heap.size + 1 := by simp
  have s2 : ((w.alloc o1).alloc o2).heap.size = w.heap.size + 2 := by simp
  have h1 := heap_alloc_new w o1
  have h2 := heap_alloc_new (w.alloc o1) o2
  have h3 := heap_alloc_new ((w.alloc o1).alloc o2) o3
  rw [s1] at h2
  rw [s2] at h3
  have b1 := below_alloc (Below.refl _ (w.alloc o1)) o2
  have b2 := below_alloc (Below.refl _ ((w.alloc o1).alloc o2)) o3
  exact ⟨below_heap b2 (below_heap b1 h1), below_heap b2 h2, h3, below_alloc (below_alloc (below_alloc (Below.refl _ w) o1) o2) o3⟩
end Go.Proofs.YtnidgljkbmceaaaGreatDoor
