/- A log on a disk, the reference's disk apart from them, and one more block. -/
import Derived.Test.YtponofojildbmaaDoorWalR
set_option linter.unusedVariables false
set_option linter.unusedSimpArgs false
namespace Go.Proofs.YtponofojildbmaaDoor
open Go.RowKit PrintLast

/-- The disk with its log, the reference's disk; all from B on; and block y, which is none of theirs. -/
def Play (w : World) (B b b' : Nat) (s : DS) (t : RS) (lg n y : Nat) (o : Obj) : Prop :=
  ∃ r r', LogAt w b r s lg n ∧ RefAt w b' r' t ∧ (B ≤ b ∧ B ≤ b' ∧ B ≤ lg ∧ (∀ k, r = some k → B ≤ k) ∧ ∀ k, r' = some k → B ≤ k) ∧ (b ≠ b' ∧ r' ≠ some b ∧ r ≠ some b' ∧ ∀ k, r = some k → r' ≠ some k) ∧ (lg ≠ b' ∧ r' ≠ some lg) ∧
    w.heap[y]? = some o ∧ (y ≠ b ∧ y ≠ b' ∧ y ≠ lg ∧ r ≠ some y ∧ r' ≠ some y)
/-- The same, without the further block. -/
def PlayH (w : World) (B b b' : Nat) (s : DS) (t : RS) (lg n : Nat) : Prop :=
  ∃ r r', LogAt w b r s lg n ∧ RefAt w b' r' t ∧ (B ≤ b ∧ B ≤ b' ∧ B ≤ lg ∧ (∀ k, r = some k → B ≤ k) ∧ ∀ k, r' = some k → B ≤ k) ∧ (b ≠ b' ∧ r' ≠ some b ∧ r ≠ some b' ∧ ∀ k, r = some k → r' ≠ some k) ∧ (lg ≠ b' ∧ r' ≠ some lg)
theorem Play.head {w : World} {B b b' : Nat} {s : DS} {t : RS} {lg n y : Nat} {o : Obj} (h : Play w B b b' s t lg n y o) : PlayH w B b b' s t lg n := by
  obtain ⟨r, r', h1, h2, h3, h4, h5, _⟩ := h
  exact ⟨r, r', h1, h2, h3, h4, h5⟩
theorem LogAt.lt {w : World} {b : Nat} {r : Option Nat} {s : DS} {lg n : Nat} (h : LogAt w b r s lg n) : b < w.heap.size ∧ lg < w.heap.size ∧ ∀ k, r = some k → k < w.heap.size :=
  ⟨h.1.lt.1, lt_of_block h.2.1, h.1.lt.2⟩
theorem PlayH.below {w w' : World} {B b b' : Nat} {s : DS} {t : RS} {lg n : Nat} (h : PlayH w B b b' s t lg n) (hb : Below w.heap.size w w') : PlayH w' B b b' s t lg n := by
  obtain ⟨r, r', h1, h2, h3, h4, h5⟩ := h
  have hk : Keeps (fun _ => False) w w' := Keeps.of_below hb
  exact ⟨r, r', h1.below hb, h2.keeps hk (fun e => e) (fun _ _ e => e), h3, h4, h5⟩
theorem Play.below {w w' : World} {B b b' : Nat} {s : DS} {t : RS} {lg n y : Nat} {o : Obj} (h : Play w B b b' s t lg n y o) (hb : Below w.heap.size w w') : Play w' B b b' s t lg n y o := by
  obtain ⟨r, r', h1, h2, h3, h4, h5, h6, h7⟩ := h
  have hk : Keeps (fun _ => False) w w' := Keeps.of_below hb
  exact ⟨r, r', h1.below hb, h2.keeps hk (fun e => e) (fun _ _ e => e), h3, h4, h5, below_heap hb h6, h7⟩
theorem PlayH.alloc {w : World} {B b b' : Nat} {s : DS} {t : RS} {lg n : Nat} (h : PlayH w B b b' s t lg n) (u : Obj) : Play (w.alloc u) B b b' s t lg n w.heap.size u := by
  have hb := h.below (below_alloc (Below.refl _ w) u)
  obtain ⟨r, r', h1, h2, h3, h4, h5⟩ := h
  obtain ⟨l1, l2, l3⟩ := h1.lt
  obtain ⟨m1, m2⟩ := h2.lt
  have hk : Keeps (fun _ => False) w (w.alloc u) := (Keeps.refl _ w).alloc _
  refine ⟨r, r', h1.keeps hk (fun e => e) (fun _ _ e => e) (fun e => e), h2.keeps hk (fun e => e) (fun _ _ e => e), h3, h4, h5, heap_alloc_new _ _, by omega, by omega, by omega, fun e => ?_, fun e => ?_⟩
  · have := l3 _ e; omega
  · have := m2 _ e; omega
/-- What is done with the disk and its log. -/
theorem Play.one {w w1 : World} {B b b' : Nat} {s s1 : DS} {t : RS} {lg n n1 y : Nat} {o : Obj} (hB : B ≤ w.heap.size)
    (h : ∃ r r', (LogAt w b r s lg n ∧ ∃ r1, LogAt w1 b r1 s1 lg n1 ∧ Next w r r1 ∧ Keeps (FootL b r lg) w w1) ∧ RefAt w b' r' t ∧ (B ≤ b ∧ B ≤ b' ∧ B ≤ lg ∧ (∀ k, r = some k → B ≤ k) ∧ ∀ k, r' = some k → B ≤ k) ∧ (b ≠ b' ∧ r' ≠ some b ∧ r ≠ some b' ∧ ∀ k, r = some k → r' ≠ some k) ∧ (lg ≠ b' ∧ r' ≠ some lg) ∧ w.heap[y]? = some o ∧ (y ≠ b ∧ y ≠ b' ∧ y ≠ lg ∧ r ≠ some y ∧ r' ≠ some y)) : Play w1 B b b' s1 t lg n1 y o ∧ Below B w w1 := by
  obtain ⟨r, r', ⟨h1, r1, k1, k2, k3⟩, h2, ⟨a1, a2, a3, a4, a5⟩, ⟨c1, c2, c3, c4⟩, ⟨d1, d2⟩, h6, ⟨e1, e2, e3, e4, e5⟩⟩ := h
  obtain ⟨m1, m2⟩ := h2.lt
  have ly := lt_of_block h6
  have nF : ∀ k, r' = some k → ¬ FootL b r lg k := fun k hk e => by
    rcases e with (e | e) | e
    · subst e; exact c2 hk
    · exact c4 k e hk
    · subst e; exact d2 hk
  have nb : ¬ FootL b r lg b' := fun e => by
    rcases e with (e | e) | e
    · exact c1 e.symm
    · exact c3 e
    · exact d1 e.symm
  have ny : ¬ FootL b r lg y := fun e => by
    rcases e with (e | e) | e
    · exact e1 e
    · exact e4 e
    · exact e3 e
  refine ⟨⟨r1, r', k1, h2.keeps k3 nb nF, ⟨a1, a2, a3, fun k hk => ?_, a5⟩, ⟨c1, c2, fun e => ?_, fun k hk e => ?_⟩, ⟨d1, d2⟩, k3.heap h6 ny, ⟨e1, e2, e3, fun e => ?_, e5⟩⟩, ⟨k3.os, k3.tape, k3.output, k3.size, fun k hk => k3.block k (by omega) (fun e => ?_)⟩⟩
  · rcases k2 k hk with q | q
    · exact a4 k q
    · omega
  · rcases k2 _ e with q | q
    · exact c3 q
    · omega
  · rcases k2 k hk with q | q
    · exact c4 k q e
    · have := m2 k e; omega
  · rcases k2 _ e with q | q
    · exact e4 q
    · omega
  · rcases e with (e | e) | e
    · omega
    · have := a4 k e; omega
    · omega
/-- What is done with the reference's disk. -/
theorem Play.two {w w1 : World} {B b b' : Nat} {s : DS} {t t1 : RS} {lg n y : Nat} {o : Obj} (hB : B ≤ w.heap.size)
    (h : ∃ r r', LogAt w b r s lg n ∧ (RefAt w b' r' t ∧ ∃ r1, RefAt w1 b' r1 t1 ∧ Next w r' r1 ∧ Keeps (Foot b' r') w w1) ∧ (B ≤ b ∧ B ≤ b' ∧ B ≤ lg ∧ (∀ k, r = some k → B ≤ k) ∧ ∀ k, r' = some k → B ≤ k) ∧ (b ≠ b' ∧ r' ≠ some b ∧ r ≠ some b' ∧ ∀ k, r = some k → r' ≠ some k) ∧ (lg ≠ b' ∧ r' ≠ some lg) ∧ w.heap[y]? = some o ∧ (y ≠ b ∧ y ≠ b' ∧ y ≠ lg ∧ r ≠ some y ∧ r' ≠ some y)) : Play w1 B b b' s t1 lg n y o ∧ Below B w w1 := by
  obtain ⟨r, r', h1, ⟨h2, r1, k1, k2, k3⟩, ⟨a1, a2, a3, a4, a5⟩, ⟨c1, c2, c3, c4⟩, ⟨d1, d2⟩, h6, ⟨e1, e2, e3, e4, e5⟩⟩ := h
  obtain ⟨l1, l2, l3⟩ := h1.lt
  have ly := lt_of_block h6
  have nb : ¬ Foot b' r' b := fun e => by
    rcases e with e | e
    · exact c1 e
    · exact c2 e
  have nr : ∀ k, r = some k → ¬ Foot b' r' k := fun k hk e => by
    rcases e with e | e
    · subst e; exact c3 hk
    · exact c4 k hk e
  have nl : ¬ Foot b' r' lg := fun e => by
    rcases e with e | e
    · exact d1 e
    · exact d2 e
  have ny : ¬ Foot b' r' y := fun e => by
    rcases e with e | e
    · exact e2 e
    · exact e5 e
  refine ⟨⟨r, r1, h1.keeps k3 nb nr nl, k1, ⟨a1, a2, a3, a4, fun k hk => ?_⟩, ⟨c1, fun e => ?_, c3, fun k hk e => ?_⟩, ⟨d1, fun e => ?_⟩, k3.heap h6 ny, ⟨e1, e2, e3, e4, fun e => ?_⟩⟩, ⟨k3.os, k3.tape, k3.output, k3.size, fun k hk => k3.block k (by omega) (fun e => ?_)⟩⟩
  · rcases k2 k hk with q | q
    · exact a5 k q
    · omega
  · rcases k2 _ e with q | q
    · exact c2 q
    · omega
  · rcases k2 k e with q | q
    · exact c4 k hk q
    · have := l3 k hk; omega
  · rcases k2 _ e with q | q
    · exact d2 q
    · omega
  · rcases k2 _ e with q | q
    · exact e5 q
    · omega
  · rcases e with e | e
    · omega
    · have := a5 k e; omega

section
variable {w : World} {B b b' : Nat} {s : DS} {t : RS} {lg n y : Nat} {o : Obj}
theorem Play.oneC {s1 : DS} {n1 : Nat} {f : FuncId} {args : Array Value} {E : Ending} (hB : B ≤ w.heap.size) (h : Play w B b b' s t lg n y o)
    (C : ∀ r, LogAt w b r s lg n → Calls Tryd.prog f args w fun e w' => e = E ∧ ∃ r1, LogAt w' b r1 s1 lg n1 ∧ Next w r r1 ∧ Keeps (FootL b r lg) w w') :
    Calls Tryd.prog f args w fun e w' => e = E ∧ Play w' B b b' s1 t lg n1 y o ∧ Below B w w' := by
  obtain ⟨r, r', h1, h2, h3⟩ := h
  refine (C r h1).mono ?_
  rintro e w' ⟨rfl, k⟩
  exact ⟨rfl, Play.one hB ⟨r, r', ⟨h1, k⟩, h2, h3⟩⟩
theorem Play.twoC {t1 : RS} {f : FuncId} {args : Array Value} {E : Ending} (hB : B ≤ w.heap.size) (h : Play w B b b' s t lg n y o)
    (C : ∀ r, RefAt w b' r t → Calls Tryd.prog f args w fun e w' => e = E ∧ ∃ r1, RefAt w' b' r1 t1 ∧ Next w r r1 ∧ Keeps (Foot b' r) w w') :
    Calls Tryd.prog f args w fun e w' => e = E ∧ Play w' B b b' s t1 lg n y o ∧ Below B w w' := by
  obtain ⟨r, r', h1, h2, h3⟩ := h
  refine (C r' h2).mono ?_
  rintro e w' ⟨rfl, k⟩
  exact ⟨rfl, Play.two hB ⟨r, r', h1, ⟨h2, k⟩, h3⟩⟩
/-- A disk's own call leaves its log. -/
theorem LogAt.disk {w1 : World} {r r1 : Option Nat} {s1 : DS} (h : LogAt w b r s lg n) (h1 : DiskAt w1 b r1 s1) (h2 : Next w r r1) (h3 : Keeps (Foot b r) w w1) : LogAt w1 b r1 s1 lg n ∧ Next w r r1 ∧ Keeps (FootL b r lg) w w1 := by
  obtain ⟨g1, g2, g3, g4⟩ := h
  have nl : ¬ Foot b r lg := fun e => by
    rcases e with e | e
    · exact g3 e
    · exact g4 e
  refine ⟨⟨h1, h3.heap g2 nl, g3, fun e => ?_⟩, h2, h3.mono fun k _ e => .inl e⟩
  rcases h2 _ e with q | q
  · exact g4 q
  · have := lt_of_block g2; omega
theorem pl_append (hT : Table w) (hB : B ≤ w.heap.size) (h : Play w B b b' s t lg n y o) {A : Option Addr} {c : Nat} {p : List UInt8} (hp : BSA w A c p) (hb : p.length ≤ 1000000) (hs : s.p.length ≤ 100000000) (hn : n ≤ 100000000) :
    Calls Tryd.prog 28 #[.pointer (some ⟨lg, 0, none⟩), .slice A p.length c] w fun e w' => e = .returned (.int .i64 s.errno) ∧ Play w' B b b' (s.append (frameB p)) t lg (if s.ok then n + (8 + p.length) else n) y o ∧ Below B w w' :=
  Play.oneC hB h fun r d => append_log hT d hp hb hs hn
theorem pl_sync (hB : B ≤ w.heap.size) (h : Play w B b b' s t lg n y o) :
    Calls Tryd.prog 29 #[.pointer (some ⟨lg, 0, none⟩)] w fun e w' => e = .returned (.int .i64 s.errno) ∧ Play w' B b b' s.sync t lg n y o ∧ Below B w w' :=
  Play.oneC hB h fun r d => (sync_log d).mono fun e w' ⟨he, r1, k1, k2, k3⟩ => ⟨he, r1, k1, k2, k3.mono fun k _ e => .inl e⟩
theorem pl_fail (hB : B ≤ w.heap.size) (h : Play w B b b' s t lg n y o) {m : Int} (hm : m ≤ 9223372036854775807) :
    Calls Tryd.prog 22 #[.pointer (some ⟨b, 0, none⟩), .int .i64 m] w fun e w' => e = .returned (.tuple #[]) ∧ Play w' B b b' (s.fail m) t lg n y o ∧ Below B w w' :=
  Play.oneC hB h fun r d => (fail_any d.1 m hm).mono fun e w' ⟨he, k1, k3⟩ => ⟨he, r, d.disk k1 (fun k hk => .inl hk) (k3.mono fun k _ e => .inl e)⟩
theorem pl_crash (hB : B ≤ w.heap.size) (h : Play w B b b' s t lg n y o) {m : Int} (hm : -9223372036854775808 ≤ m ∧ m ≤ 9223372036854775807) (hbig : s.p.length ≤ 140737488355328) :
    Calls Tryd.prog 30 #[.pointer (some ⟨b, 0, none⟩), .int .i64 m] w fun e w' => e = .returned (.tuple #[]) ∧ Play w' B b b' (s.crash m) t lg n y o ∧ Below B w w' :=
  Play.oneC hB h fun r d => (crash_any d.1 hm hbig).mono fun e w' ⟨he, r', k1, k2, k3⟩ => ⟨he, r', d.disk k1 (fun k hk => .inr (k2 k hk)) (k3.mono fun k _ e => .inl e)⟩
theorem pq_append (hB : B ≤ w.heap.size) (h : Play w B b b' s t lg n y o) {A2 : Option Addr} {c2 : Nat} {q : List UInt8} (hq : BSA w A2 c2 q) (hqb : ∀ ad, A2 = some ad → 0 < q.length → ad.block ≠ b') (hbig : t.p.length + q.length ≤ 140737488355328) :
    Calls Tryd.prog 32 #[.pointer (some ⟨b', 0, none⟩), .slice A2 q.length c2] w fun e w' => e = .returned (.int .i64 t.errno) ∧ Play w' B b b' s (t.append q) lg n y o ∧ Below B w w' :=
  Play.twoC hB h fun r d => rappend_any d hq hqb hbig
theorem pq_sync (hB : B ≤ w.heap.size) (h : Play w B b b' s t lg n y o) :
    Calls Tryd.prog 33 #[.pointer (some ⟨b', 0, none⟩)] w fun e w' => e = .returned (.int .i64 t.errno) ∧ Play w' B b b' s t.sync lg n y o ∧ Below B w w' :=
  Play.twoC hB h fun r d => (rsync_any d).mono fun e w' ⟨he, k1, k3⟩ => ⟨he, r, k1, fun k hk => .inl hk, k3.mono fun k _ e => .inl e⟩
theorem pq_fail (hB : B ≤ w.heap.size) (h : Play w B b b' s t lg n y o) {m : Int} (hm : m ≤ 9223372036854775807) :
    Calls Tryd.prog 23 #[.pointer (some ⟨b', 0, none⟩), .int .i64 m] w fun e w' => e = .returned (.tuple #[]) ∧ Play w' B b b' s (t.fail m) lg n y o ∧ Below B w w' :=
  Play.twoC hB h fun r d => (rfail_any d m hm).mono fun e w' ⟨he, k1, k3⟩ => ⟨he, r, k1, fun k hk => .inl hk, k3.mono fun k _ e => .inl e⟩
theorem pq_crash (hB : B ≤ w.heap.size) (h : Play w B b b' s t lg n y o) {m : Int} (hm : m ≤ 9223372036854775807) (hbig : t.p.length ≤ 140737488355328) :
    Calls Tryd.prog 34 #[.pointer (some ⟨b', 0, none⟩), .int .i64 m] w fun e w' => e = .returned (.tuple #[]) ∧ Play w' B b b' s (t.crash m) lg n y o ∧ Below B w w' :=
  Play.twoC hB h fun r d => rcrash_any d hbig hm
end
end Go.Proofs.YtponofojildbmaaDoor
