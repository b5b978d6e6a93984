/- Two chains at once. -/
import Derived.Test.YtlfimleciemobabChainE
set_option linter.unusedVariables false
set_option linter.unusedSimpArgs false
namespace Go.Proofs.Ytlfimleciemobab
open Go.RowKit

/-- Two chains, none of whose blocks is the other's; all are numbered from B on. -/
def Two (w : World) (B b1 b2 : Nat) (vs1 : List Ver) (n1 : Int) (vs2 : List Ver) (n2 : Int) : Prop :=
  ∃ F1 F2, ChainAt w F1 b1 vs1 n1 ∧ ChainAt w F2 b2 vs2 n2 ∧ (∀ j, F1 j → B ≤ j ∧ ¬ F2 j) ∧ (∀ j, F2 j → B ≤ j)

theorem Two.below {w w' : World} {B b1 b2 : Nat} {vs1 vs2 : List Ver} {n1 n2 : Int} (h : Two w B b1 b2 vs1 n1 vs2 n2) (hb : Below w.heap.size w w') : Two w' B b1 b2 vs1 n1 vs2 n2 := by
  obtain ⟨F1, F2, h1, h2, h3, h4⟩ := h
  exact ⟨F1, F2, h1.below hb, h2.below hb, h3, h4⟩
theorem Two.fst {w : World} {B b1 b2 : Nat} {vs1 vs2 : List Ver} {n1 n2 : Int} (h : Two w B b1 b2 vs1 n1 vs2 n2) : ChainB w B b1 vs1 n1 := by
  obtain ⟨F1, F2, h1, h2, h3, h4⟩ := h
  exact ⟨F1, h1, fun k hk => (h3 k hk).1⟩
theorem Two.snd {w : World} {B b1 b2 : Nat} {vs1 vs2 : List Ver} {n1 n2 : Int} (h : Two w B b1 b2 vs1 n1 vs2 n2) : ChainB w B b2 vs2 n2 := by
  obtain ⟨F1, F2, h1, h2, h3, h4⟩ := h
  exact ⟨F2, h2, h4⟩
theorem Two.swap {w : World} {B b1 b2 : Nat} {vs1 vs2 : List Ver} {n1 n2 : Int} (h : Two w B b1 b2 vs1 n1 vs2 n2) : Two w B b2 b1 vs2 n2 vs1 n1 := by
  obtain ⟨F1, F2, h1, h2, h3, h4⟩ := h
  exact ⟨F2, F1, h2, h1, fun j hj => ⟨h4 j hj, fun e => (h3 j e).2 hj⟩, fun j hj => (h3 j hj).1⟩
theorem Two.step {w w' : World} {B b1 b2 : Nat} {vs2 : List Ver} {n2 : Int} {F1 F2 : Nat → Prop} {vs1' : List Ver} {n1' : Int} (hB : B ≤ w.heap.size) (h2 : ChainAt w F2 b2 vs2 n2) (h3 : ∀ j, F1 j → B ≤ j ∧ ¬ F2 j) (h4 : ∀ j, F2 j → B ≤ j)
    (h : ∃ F', ChainAt w' F' b1 vs1' n1' ∧ (∀ k, F' k → F1 k ∨ w.heap.size ≤ k) ∧ Keeps F1 w w') : Two w' B b1 b2 vs1' n1' vs2 n2 ∧ Below B w w' := by
  obtain ⟨F', k1, k2, k3⟩ := h
  refine ⟨⟨F', F2, k1, h2.keeps k3 (fun k hk e => (h3 k e).2 hk), fun j hj => ?_, h4⟩, ⟨k3.os, k3.tape, k3.output, k3.size, fun k hk => k3.block k (by omega) (fun e => by have := (h3 k e).1; omega)⟩⟩
  rcases k2 j hj with e | e
  · exact h3 j e
  · exact ⟨by omega, fun f => by have := h2.2.1 j f; omega⟩

theorem two_put {w : World} {B b1 b2 : Nat} {vs1 vs2 : List Ver} {n1 n2 x : Int} {A : Option Addr} {c : Nat} {row : List UInt8} {g : Bool} (hB : B ≤ w.heap.size) (h : Two w B b1 b2 vs1 n1 vs2 n2) (hx : n1 < x) (hrow : BSA w A c row) (hbig : row.length ≤ 140737488355328) (hn : vs1.length < 1000000) :
    Calls Try.prog 12 #[.pointer (some ⟨b1, 0, none⟩), .int .i64 x, .slice A row.length c, .bool g] w fun e w' => e = .returned (.int .i64 0) ∧ Two w' B b1 b2 (vs1 ++ [(⟨x, row, g⟩ : Ver)]) x vs2 n2 ∧ Below B w w' := by
  obtain ⟨F1, F2, h1, h2, h3, h4⟩ := h
  exact (put_yes h1 hx hrow hbig hn).mono fun e w' ⟨he, hh⟩ => ⟨he, Two.step hB h2 h3 h4 hh⟩
theorem two_trim {w : World} {B b1 b2 : Nat} {vs1 vs2 : List Ver} {n1 n2 x : Int} (hB : B ≤ w.heap.size) (h : Two w B b1 b2 vs1 n1 vs2 n2) (hg : Good vs1 n1) :
    Calls Try.prog 15 #[.pointer (some ⟨b1, 0, none⟩), .int .i64 x] w fun e w' => e = .returned (.int .i64 (trimN vs1 x : Int)) ∧ Two w' B b1 b2 (vs1.drop (trimN vs1 x)) n1 vs2 n2 ∧ Below B w w' := by
  obtain ⟨F1, F2, h1, h2, h3, h4⟩ := h
  exact (trim_any h1 hg.1 hg.2.2).mono fun e w' ⟨he, hh⟩ => ⟨he, Two.step hB h2 h3 h4 hh⟩
end Go.Proofs.Ytlfimleciemobab
