/- Package chain by contracts on a chain all of whose blocks are numbered from B on. -/
import Derived.Test.YtlfimleciemobabChainD
import Derived.Test.YtlfimleciemobabLit
set_option linter.unusedVariables false
set_option linter.unusedSimpArgs false
namespace Go.Proofs.Ytlfimleciemobab
open Go.RowKit PrintLast

/-- Versions as a chain has them: rising, none above the greatest number, not too many, their rows not too long. -/
def Good (vs : List Ver) (last : Int) : Prop := Rising vs ∧ (∀ v ∈ vs, v.at_ ≤ last ∧ v.row.length ≤ 140737488355328) ∧ vs.length < 1000000
def ChainB (w : World) (B b : Nat) (vs : List Ver) (last : Int) : Prop := ∃ F, ChainAt w F b vs last ∧ ∀ k, F k → B ≤ k

theorem Good.put {vs : List Ver} {last x : Int} {row : List UInt8} {g : Bool} (h : Good vs last) (hx : last < x) (hrow : row.length ≤ 140737488355328) (hn : vs.length + 1 < 1000000) : Good (vs ++ [⟨x, row, g⟩]) x := by
  refine ⟨?_, ?_, by simpa using hn⟩
  · unfold Rising
    rw [List.pairwise_append]
    exact ⟨h.1, by simp, fun a ha b hb => by simp at hb; subst hb; have := (h.2.1 a ha).1; show a.at_ < x; omega⟩
  · intro v hv
    simp only [List.mem_append, List.mem_singleton] at hv
    rcases hv with hv | rfl
    · have := h.2.1 v hv; exact ⟨by omega, this.2⟩
    · exact ⟨Int.le_refl _, hrow⟩
theorem Good.drop {vs : List Ver} {last : Int} (h : Good vs last) (n : Nat) : Good (vs.drop n) last :=
  ⟨List.Pairwise.sublist (List.drop_sublist _ _) h.1, fun v hv => h.2.1 v (List.mem_of_mem_drop hv), by have := h.2.2; simp; omega⟩

theorem ChainB.below {w w' : World} {B b : Nat} {vs : List Ver} {last : Int} (h : ChainB w B b vs last) (hb : Below w.heap.size w w') : ChainB w' B b vs last := by
  obtain ⟨F, h1, h2⟩ := h
  exact ⟨F, h1.below hb, h2⟩
theorem ChainB.step {w w' : World} {B : Nat} {F : Nat → Prop} {Q : (Nat → Prop) → Prop} (hB : B ≤ w.heap.size) (hF : ∀ k, F k → B ≤ k) (h : ∃ F', Q F' ∧ (∀ k, F' k → F k ∨ w.heap.size ≤ k) ∧ Keeps F w w') : (∃ F', Q F' ∧ ∀ k, F' k → B ≤ k) ∧ Below B w w' := by
  obtain ⟨F', h1, h2, h3⟩ := h
  exact ⟨⟨F', h1, fun k hk => by rcases h2 k hk with e | e; exact hF k e; omega⟩, ⟨h3.os, h3.tape, h3.output, h3.size, fun k hk => h3.block k (by omega) (fun e => by have := hF k e; omega)⟩⟩

theorem new_B {w : World} {B : Nat} (hB : B ≤ w.heap.size) : Calls Try.prog 10 #[] w fun e w' => ∃ b, e = .returned (.pointer (some ⟨b, 0, none⟩)) ∧ ChainB w' B b [] 0 ∧ Below w.heap.size w w' :=
  new_any.mono fun e w' ⟨he, h1, h2⟩ => ⟨_, he, ⟨_, h1, fun k hk => by omega⟩, h2⟩

theorem put_B {w : World} {B b : Nat} {vs : List Ver} {last x : Int} {A : Option Addr} {c : Nat} {row : List UInt8} {g : Bool} (hB : B ≤ w.heap.size) (h : ChainB w B b vs last) (hx : last < x) (hrow : BSA w A c row) (hbig : row.length ≤ 140737488355328) (hn : vs.length < 1000000) :
    Calls Try.prog 12 #[.pointer (some ⟨b, 0, none⟩), .int .i64 x, .slice A row.length c, .bool g] w fun e w' => e = .returned (.int .i64 0) ∧ ChainB w' B b (vs ++ [⟨x, row, g⟩]) x ∧ Below B w w' := by
  obtain ⟨F, h1, h2⟩ := h
  exact (put_yes h1 hx hrow hbig hn).mono fun e w' ⟨he, hh⟩ => ⟨he, ChainB.step (Q := fun F' => ChainAt w' F' b (vs ++ [({ at_ := x, row := row, gone := g } : Ver)]) x) hB h2 hh⟩
theorem put_noB {w : World} {B b : Nat} {vs : List Ver} {last x : Int} {A : Option Addr} {n c : Nat} {g : Bool} (h : ChainB w B b vs last) (hx : x ≤ last) :
    Calls Try.prog 12 #[.pointer (some ⟨b, 0, none⟩), .int .i64 x, .slice A n c, .bool g] w fun e w' => e = .returned (.int .i64 1) ∧ w = w' := by
  obtain ⟨F, h1, h2⟩ := h
  exact put_no h1 hx
theorem trim_B {w : World} {B b : Nat} {vs : List Ver} {last x : Int} (hB : B ≤ w.heap.size) (h : ChainB w B b vs last) (hg : Good vs last) :
    Calls Try.prog 15 #[.pointer (some ⟨b, 0, none⟩), .int .i64 x] w fun e w' => e = .returned (.int .i64 (trimN vs x : Int)) ∧ ChainB w' B b (vs.drop (trimN vs x)) last ∧ Below B w w' := by
  obtain ⟨F, h1, h2⟩ := h
  exact (trim_any h1 hg.1 hg.2.2).mono fun e w' ⟨he, hh⟩ => ⟨he, ChainB.step (Q := fun F' => ChainAt w' F' b (vs.drop (trimN vs x)) last) hB h2 hh⟩
theorem get_B {w : World} {B b : Nat} {vs : List Ver} {last : Int} (h : ChainB w B b vs last) (hg : Good vs last) (x : Int) :
    Calls Try.prog 13 #[.pointer (some ⟨b, 0, none⟩), .int .i64 x] w fun e w' => ∃ A' c', e = .returned (.tuple #[.slice A' (got vs x).1.length c', .bool (got vs x).2]) ∧ Made w w' (.slice A' (got vs x).1.length c') (got vs x).1 := by
  obtain ⟨F, h1, h2⟩ := h
  exact get_any h1 hg.1 (by have := hg.2.2; omega) (fun v hv => (hg.2.1 v hv).2) x
theorem last_B {w : World} {B b : Nat} {vs : List Ver} {last : Int} (h : ChainB w B b vs last) :
    Calls Try.prog 19 #[.pointer (some ⟨b, 0, none⟩)] w fun e w' => e = .returned (.int .i64 last) ∧ w = w' := by
  obtain ⟨F, h1, h2⟩ := h
  exact last_any h1
theorem len_B {w : World} {B b : Nat} {vs : List Ver} {last : Int} (h : ChainB w B b vs last) :
    Calls Try.prog 20 #[.pointer (some ⟨b, 0, none⟩)] w fun e w' => e = .returned (.int .i64 (vs.length : Int)) ∧ w = w' := by
  obtain ⟨F, h1, h2⟩ := h
  exact len_any h1
theorem Good.nil : Good [] 0 := ⟨List.Pairwise.nil, fun v hv => by simp at hv, by simp⟩

set_option maxHeartbeats 800000 in
/-- The document's example. -/
theorem gone_any {w : World} : Calls Try.prog 9 #[] w fun e w' => e = .returned (.bool true) ∧ Below w.heap.size w w' := by
  have kc := fun (w : World) (C : Array Value) (n c : Nat) => Lib.run_convert_bytes_const (P := Try.prog) w 22 5 C n c Try.underlying22 Try.underlying5
  go_enter Try.func9, Try.ntmps9
  go_wp2_with fail
  refine (new_B (B := w.heap.size) (Nat.le_refl _)).mono ?_
  rintro e w1 ⟨b, rfl, d1, b1⟩
  have s1 := b1.size
  have q1 : BSA (w1.alloc (.cells #[.int .u8 97] 5 (1, 2))) (some ⟨w1.heap.size, 0, none⟩) 1 [97] := lit_bsa (l := [97]) (by simp [maxLen])
  go_wp2_with fail
  refine (put_B (B := w.heap.size) (row := [97]) (by simp; omega) (d1.below ((Below.refl _ _).alloc (Nat.le_refl _) _)) (by omega) q1 (by simp) (by simp)).mono ?_
  rintro e w2 ⟨rfl, d2, b2⟩
  have s2 := b2.size
  simp only [World.size_alloc] at s2
  go_wp2_with fail
  refine (put_B (B := w.heap.size) (row := []) (by omega) d2 (by omega) (BSA.nil w2) (by simp) (by simp)).mono ?_
  rintro e w3 ⟨rfl, d3, b3⟩
  have s3 := b3.size
  replace d3 : ChainB w3 w.heap.size b [⟨1, [97], false⟩, ⟨3, [], true⟩] 3 := d3
  have hg : Good [⟨1, [97], false⟩, ⟨3, [], true⟩] 3 := ⟨by simp [Rising], by simp, by simp⟩
  have HG := hid hg
  have G2 := get_B d3 hg 2
  rw [show got [⟨1, [97], false⟩, ⟨3, [], true⟩] 2 = ([97], true) by simp [got, cnt]] at G2
  have HG2 := hid G2
  have b13 := (((below_alloc b1 (.cells #[.int .u8 97] 5 (1, 2))).trans b2).trans b3)
  clear G2 hg q1 d1 d2
  go_wp2_with fail
  refine HG2.out.mono ?_
  rintro e w4 ⟨A4, c4, rfl, m4⟩
  have s4 := m4.2.2.size
  have d4 := d3.below m4.2.2
  have G3 := get_B d4 HG.out 3
  rw [show got [⟨1, [97], false⟩, ⟨3, [], true⟩] 3 = ([], false) by simp [got, cnt]] at G3
  have HG3 := hid G3
  clear G3 d3
  go_wp2_with fail
  refine HG3.out.mono ?_
  rintro e w5 ⟨A5, c5, rfl, m5⟩
  have s5 := m5.2.2.size
  have d5 := d4.below m5.2.2
  have y5 := m4.bsa.below m5.2.2
  have q5 : BSA (w5.alloc (.cells #[.int .u8 97] 5 (1, 2))) (some ⟨w5.heap.size, 0, none⟩) 1 [97] := lit_bsa (l := [97]) (by simp [maxLen])
  go_wp2_with fail
  refine (bytes_any (x := [97]) (y := [97]) (y5.below ((Below.refl _ _).alloc (Nat.le_refl _) _)) q5).mono ?_
  rintro e w6 ⟨rfl, b6⟩
  have s6 := b6.size
  simp only [World.size_alloc] at s6
  have d6 := (d5.below ((Below.refl _ _).alloc (Nat.le_refl _) (.cells #[.int .u8 97] 5 (1, 2)))).below b6
  have T := trim_B (B := w.heap.size) (x := 3) (by omega) d6 HG.out
  rw [show trimN [⟨1, [97], false⟩, ⟨3, [], true⟩] 3 = 2 by simp [trimN, cnt]] at T
  have HT := hid T
  clear T
  go_wp2_with fail
  refine HT.out.mono ?_
  rintro e w7 ⟨rfl, d7, b7⟩
  go_wp2
  go_ret
  exact ⟨rfl, ((((b13.trans (m4.2.2.mono (by omega))).trans (m5.2.2.mono (by omega))).alloc (by omega) (.cells #[.int .u8 97] 5 (1, 2))).trans (b6.mono (by simp; omega))).trans b7⟩
end Go.Proofs.Ytlfimleciemobab
