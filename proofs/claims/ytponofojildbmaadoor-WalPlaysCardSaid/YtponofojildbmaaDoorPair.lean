/- The disk and the reference's disk, both in memory and apart; what each act makes of the two. -/
import Derived.Test.YtponofojildbmaaDoorRef07E
set_option linter.unusedVariables false
set_option linter.unusedSimpArgs false
namespace Go.Proofs.YtponofojildbmaaDoor
open Go.RowKit PrintLast

/-- The reference's disk that goes with s. -/
def DS.ref (s : DS) : RS := ⟨s.p, s.safe, if s.fails then (s.calls : Int) else -1⟩

theorem ref_ok (s : DS) : s.ref.ok = s.ok := by
  obtain ⟨p, sf, c, f⟩ := s
  cases f
  · simp [DS.ref, RS.ok, DS.ok]
  · cases c with
    | zero => simp [DS.ref, RS.ok, DS.ok]
    | succ c => simp [DS.ref, RS.ok, DS.ok]; omega
theorem ref_errno (s : DS) : s.ref.errno = s.errno := by simp [RS.errno, DS.errno, ref_ok]
theorem ref_called {s : DS} (h : s.ok = true) : s.ref.called = s.called.ref := by
  obtain ⟨p, sf, c, f⟩ := s
  cases f
  · simp [DS.ref, RS.called, DS.called]
  · cases c with
    | zero => simp [DS.ok] at h
    | succ c => simp [DS.ref, RS.called, DS.called]
theorem ref_append (s : DS) (q : List UInt8) : s.ref.append q = (s.append q).ref := by
  unfold RS.append DS.append
  rw [ref_ok]
  cases h : s.ok with
  | true => simp only [if_true, ref_called h]; rfl
  | false => simp
theorem ref_sync (s : DS) : s.ref.sync = s.sync.ref := by
  unfold RS.sync DS.sync
  rw [ref_ok]
  cases h : s.ok with
  | true => simp only [if_true, ref_called h]; rfl
  | false => simp
theorem ref_cuts (s : DS) (n : Int) : s.ref.cuts n = (s.cuts n).ref := by
  unfold RS.cuts DS.cuts
  rw [ref_ok]
  cases h : s.ok with
  | true =>
    simp only [if_true, ref_called h]
    have hp : s.called.p = s.p := rfl
    have hr : s.ref.p = s.p := rfl
    have e : s.p.take n.toNat = s.p.take (min (max n 0) (s.p.length : Int)).toNat := by
      by_cases hc : n.toNat ≤ s.p.length
      · rw [show (min (max n 0) (s.p.length : Int)).toNat = n.toNat by omega]
      · rw [List.take_of_length_le (by omega), List.take_of_length_le (by omega)]
    have el : (s.p.take (min (max n 0) (s.p.length : Int)).toNat).length = (min (max n 0) (s.p.length : Int)).toNat := by rw [List.length_take]; omega
    simp only [DS.ref, DS.cut, hp, e, el]
  | false => simp
theorem ref_fail (s : DS) (n : Int) : s.ref.fail n = (s.fail n).ref := by
  unfold RS.fail DS.fail DS.ref
  by_cases h : n < 0
  · have : ¬ 0 ≤ n := by omega
    simp [h, this]
  · have : 0 ≤ n := by omega
    simp [h, this]
    omega
theorem ref_crash (s : DS) (n : Int) (h : s.safe ≤ s.p.length) : s.ref.crash n = (s.crash n).ref := by
  unfold RS.crash DS.crash DS.ref
  simp only [Bool.false_eq_true, if_false, RS.mk.injEq, and_true]
  have e : s.p.take (s.safe + n.toNat) = s.p.take (s.safe + (min (max n 0) ((s.p.length : Int) - s.safe)).toNat) := by
    by_cases hc : s.safe + n.toNat ≤ s.p.length
    · rw [show (min (max n 0) ((s.p.length : Int) - s.safe)).toNat = n.toNat by omega]
    · rw [List.take_of_length_le (by omega), List.take_of_length_le (by omega)]
  refine ⟨e, ?_⟩
  rw [e, List.length_take]
  omega

/-- The two, apart; all from B on; and block x, which is none of theirs. -/
def Pair (w : World) (B b b' : Nat) (s : DS) (t : RS) (x : Nat) (o : Obj) : Prop :=
  ∃ r r', DiskAt w b r s ∧ RefAt w b' r' t ∧ (B ≤ b ∧ B ≤ b' ∧ (∀ k, r = some k → B ≤ k) ∧ (∀ k, r' = some k → B ≤ k)) ∧ (b ≠ b' ∧ r' ≠ some b ∧ r ≠ some b' ∧ ∀ k, r = some k → r' ≠ some k) ∧ w.heap[x]? = some o ∧ (x ≠ b ∧ x ≠ b' ∧ r ≠ some x ∧ r' ≠ some x)

theorem Pair.below {w w' : World} {B b b' : Nat} {s : DS} {t : RS} {x : Nat} {o : Obj} (h : Pair w B b b' s t x o) (hb : Below w.heap.size w w') : Pair w' B b b' s t x o := by
  obtain ⟨r, r', h1, h2, h3, h4, h5, h6⟩ := h
  have hk : Keeps (fun _ => False) w w' := Keeps.of_below hb
  exact ⟨r, r', h1.keeps hk (fun e => e) (fun _ _ e => e), h2.keeps hk (fun e => e) (fun _ _ e => e), h3, h4, below_heap hb h5, h6⟩
/-- Block x is another one. -/
theorem Pair.swap {w : World} {B b b' : Nat} {s : DS} {t : RS} {x : Nat} {o : Obj} (h : Pair w B b b' s t x o) {y : Nat} {u : Obj} (hy : w.heap[y]? = some u) (hn : ∀ r r', DiskAt w b r s → RefAt w b' r' t → y ≠ b ∧ y ≠ b' ∧ r ≠ some y ∧ r' ≠ some y) : Pair w B b b' s t y u := by
  obtain ⟨r, r', h1, h2, h3, h4, h5, h6⟩ := h
  exact ⟨r, r', h1, h2, h3, h4, hy, hn r r' h1 h2⟩
/-- The two, without a third. -/
def PairH (w : World) (B b b' : Nat) (s : DS) (t : RS) : Prop :=
  ∃ r r', DiskAt w b r s ∧ RefAt w b' r' t ∧ (B ≤ b ∧ B ≤ b' ∧ (∀ k, r = some k → B ≤ k) ∧ (∀ k, r' = some k → B ≤ k)) ∧ (b ≠ b' ∧ r' ≠ some b ∧ r ≠ some b' ∧ ∀ k, r = some k → r' ≠ some k)
theorem Pair.head {w : World} {B b b' : Nat} {s : DS} {t : RS} {x : Nat} {o : Obj} (h : Pair w B b b' s t x o) : PairH w B b b' s t := by
  obtain ⟨r, r', h1, h2, h3, h4, _⟩ := h
  exact ⟨r, r', h1, h2, h3, h4⟩
theorem PairH.below {w w' : World} {B b b' : Nat} {s : DS} {t : RS} (h : PairH w B b b' s t) (hb : Below w.heap.size w w') : PairH w' B b b' s t := by
  obtain ⟨r, r', h1, h2, h3, h4⟩ := h
  have hk : Keeps (fun _ => False) w w' := Keeps.of_below hb
  exact ⟨r, r', h1.keeps hk (fun e => e) (fun _ _ e => e), h2.keeps hk (fun e => e) (fun _ _ e => e), h3, h4⟩
/-- A new block is none of theirs. -/
theorem PairH.alloc {w : World} {B b b' : Nat} {s : DS} {t : RS} (h : PairH w B b b' s t) (u : Obj) : Pair (w.alloc u) B b b' s t w.heap.size u := by
  obtain ⟨r, r', h1, h2, h3, h4⟩ := h
  have hk : Keeps (fun _ => False) w (w.alloc u) := (Keeps.refl _ w).alloc _
  have l1 := h1.lt
  have l2 := h2.lt
  refine ⟨r, r', h1.keeps hk (fun e => e) (fun _ _ e => e), h2.keeps hk (fun e => e) (fun _ _ e => e), h3, h4, heap_alloc_new _ _, ?_, ?_, ?_, ?_⟩
  · have := l1.1; omega
  · have := l2.1; omega
  · intro e; have := l1.2 _ e; omega
  · intro e; have := l2.2 _ e; omega

theorem Pair.one {w w1 : World} {B b b' : Nat} {s s1 : DS} {t : RS} {x : Nat} {o : Obj} (hB : B ≤ w.heap.size) (h : ∃ r r', (DiskAt w b r s ∧ ∃ r1, DiskAt w1 b r1 s1 ∧ Next w r r1 ∧ Keeps (Foot b r) w w1) ∧ RefAt w b' r' t ∧ (B ≤ b ∧ B ≤ b' ∧ (∀ k, r = some k → B ≤ k) ∧ (∀ k, r' = some k → B ≤ k)) ∧ (b ≠ b' ∧ r' ≠ some b ∧ r ≠ some b' ∧ ∀ k, r = some k → r' ≠ some k) ∧ w.heap[x]? = some o ∧ (x ≠ b ∧ x ≠ b' ∧ r ≠ some x ∧ r' ≠ some x)) :
    Pair w1 B b b' s1 t x o ∧ Below B w w1 := by
  obtain ⟨r, r', ⟨h1, r1, g1, g2, g3⟩, h2, ⟨p1, p2, p3, p4⟩, ⟨q1, q2, q3, q4⟩, h5, ⟨x1, x2, x3, x4⟩⟩ := h
  have l2 := h2.lt
  have lx := lt_of_block h5
  have nb' : ¬ Foot b r b' := fun e => e.elim (fun e => q1 e.symm) q3
  have nx : ¬ Foot b r x := fun e => e.elim x1 x3
  have nr' : ∀ k, r' = some k → ¬ Foot b r k := fun k e f => f.elim (fun f => q2 (f ▸ e)) (fun f => q4 k f e)
  refine ⟨⟨r1, r', g1, h2.keeps g3 nb' nr', ⟨p1, p2, fun k hk => ?_, p4⟩, ⟨q1, q2, fun e => ?_, fun k e e' => ?_⟩, g3.heap h5 nx, x1, x2, fun e => ?_, x4⟩, ⟨g3.os, g3.tape, g3.output, g3.size, fun k hk => g3.block k (by omega) (fun e => ?_)⟩⟩
  · rcases g2 k hk with e | e
    · exact p3 k e
    · omega
  · rcases g2 _ e with e | e
    · exact q3 e
    · have := l2.1; omega
  · rcases g2 _ e with e | e
    · exact q4 k e e'
    · have := l2.2 _ e'; omega
  · rcases g2 _ e with e | e
    · exact x3 e
    · omega
  · rcases e with e | e
    · omega
    · have := p3 k e; omega

theorem Pair.two {w w1 : World} {B b b' : Nat} {s : DS} {t t1 : RS} {x : Nat} {o : Obj} (hB : B ≤ w.heap.size) (h : ∃ r r', DiskAt w b r s ∧ (RefAt w b' r' t ∧ ∃ r1, RefAt w1 b' r1 t1 ∧ Next w r' r1 ∧ Keeps (Foot b' r') w w1) ∧ (B ≤ b ∧ B ≤ b' ∧ (∀ k, r = some k → B ≤ k) ∧ (∀ k, r' = some k → B ≤ k)) ∧ (b ≠ b' ∧ r' ≠ some b ∧ r ≠ some b' ∧ ∀ k, r = some k → r' ≠ some k) ∧ w.heap[x]? = some o ∧ (x ≠ b ∧ x ≠ b' ∧ r ≠ some x ∧ r' ≠ some x)) :
    Pair w1 B b b' s t1 x o ∧ Below B w w1 := by
  obtain ⟨r, r', h1, ⟨h2, r1, g1, g2, g3⟩, ⟨p1, p2, p3, p4⟩, ⟨q1, q2, q3, q4⟩, h5, ⟨x1, x2, x3, x4⟩⟩ := h
  have l1 := h1.lt
  have lx := lt_of_block h5
  have nb : ¬ Foot b' r' b := fun e => e.elim q1 q2
  have nx : ¬ Foot b' r' x := fun e => e.elim x2 x4
  have nr : ∀ k, r = some k → ¬ Foot b' r' k := fun k e f => f.elim (fun f => q3 (f ▸ e)) (fun f => q4 k e f)
  refine ⟨⟨r, r1, h1.keeps g3 nb nr, g1, ⟨p1, p2, p3, fun k hk => ?_⟩, ⟨q1, fun e => ?_, q3, fun k e e' => ?_⟩, g3.heap h5 nx, x1, x2, x3, fun e => ?_⟩, ⟨g3.os, g3.tape, g3.output, g3.size, fun k hk => g3.block k (by omega) (fun e => ?_)⟩⟩
  · rcases g2 k hk with e | e
    · exact p4 k e
    · omega
  · rcases g2 _ e with e | e
    · exact q2 e
    · have := l1.1; omega
  · rcases g2 _ e' with e' | e'
    · exact q4 k e e'
    · have := l1.2 _ e; omega
  · rcases g2 _ e with e | e
    · exact x4 e
    · omega
  · rcases e with e | e
    · omega
    · have := p4 k e; omega

theorem Pair.oneC {w : World} {B b b' : Nat} {s s1 : DS} {t : RS} {x : Nat} {o : Obj} {f : FuncId} {args : Array Value} {E : Ending} (hB : B ≤ w.heap.size) (h : Pair w B b b' s t x o) (C : ∀ r, DiskAt w b r s → Calls Tryd.prog f args w fun e w' => e = E ∧ ∃ r1, DiskAt w' b r1 s1 ∧ Next w r r1 ∧ Keeps (Foot b r) w w') :
    Calls Tryd.prog f args w fun e w' => e = E ∧ Pair w' B b b' s1 t x o ∧ Below B w w' := by
  obtain ⟨r, r', h1, h2, h3, h4, h5, h6⟩ := h
  exact (C r h1).mono fun e w' ⟨he, r1, k⟩ => ⟨he, Pair.one hB ⟨r, r', ⟨h1, r1, k⟩, h2, h3, h4, h5, h6⟩⟩
theorem Pair.twoC {w : World} {B b b' : Nat} {s : DS} {t t1 : RS} {x : Nat} {o : Obj} {f : FuncId} {args : Array Value} {E : Ending} (hB : B ≤ w.heap.size) (h : Pair w B b b' s t x o) (C : ∀ r, RefAt w b' r t → Calls Tryd.prog f args w fun e w' => e = E ∧ ∃ r1, RefAt w' b' r1 t1 ∧ Next w r r1 ∧ Keeps (Foot b' r) w w') :
    Calls Tryd.prog f args w fun e w' => e = E ∧ Pair w' B b b' s t1 x o ∧ Below B w w' := by
  obtain ⟨r, r', h1, h2, h3, h4, h5, h6⟩ := h
  exact (C r' h2).mono fun e w' ⟨he, r1, k⟩ => ⟨he, Pair.two hB ⟨r, r', h1, ⟨h2, r1, k⟩, h3, h4, h5, h6⟩⟩
theorem pd_append {w : World} {B b b' : Nat} {s : DS} {t : RS} {x : Nat} {o : Obj} (hB : B ≤ w.heap.size) (h : Pair w B b b' s t x o) {A2 : Option Addr} {c2 : Nat} {q : List UInt8} (hq : BSA w A2 c2 q) (hbig : s.p.length + q.length ≤ 140737488355328) :
    Calls Tryd.prog 43 #[.pointer (some ⟨b, 0, none⟩), .slice A2 q.length c2] w fun e w' => e = .returned (.int .i64 s.errno) ∧ Pair w' B b b' (s.append q) t x o ∧ Below B w w' :=
  Pair.oneC hB h fun r d => append_at d hq hbig
theorem pd_sync {w : World} {B b b' : Nat} {s : DS} {t : RS} {x : Nat} {o : Obj} (hB : B ≤ w.heap.size) (h : Pair w B b b' s t x o)  :
    Calls Tryd.prog 44 #[.pointer (some ⟨b, 0, none⟩)] w fun e w' => e = .returned (.int .i64 s.errno) ∧ Pair w' B b b' (s.sync) t x o ∧ Below B w w' :=
  Pair.oneC hB h fun r d => sync_at d
theorem pd_cut {w : World} {B b b' : Nat} {s : DS} {t : RS} {x : Nat} {o : Obj} (hB : B ≤ w.heap.size) (h : Pair w B b b' s t x o) {n : Int} (hn : -9223372036854775808 ≤ n ∧ n ≤ 9223372036854775807) (hbig : s.p.length ≤ 140737488355328) :
    Calls Tryd.prog 41 #[.pointer (some ⟨b, 0, none⟩), .int .i64 n] w fun e w' => e = .returned (.int .i64 s.errno) ∧ Pair w' B b b' (s.cuts n) t x o ∧ Below B w w' :=
  Pair.oneC hB h fun r d => cut_at d hn hbig
theorem pd_fail {w : World} {B b b' : Nat} {s : DS} {t : RS} {x : Nat} {o : Obj} (hB : B ≤ w.heap.size) (h : Pair w B b b' s t x o) {n : Int} (hn : n ≤ 9223372036854775807) :
    Calls Tryd.prog 22 #[.pointer (some ⟨b, 0, none⟩), .int .i64 n] w fun e w' => e = .returned (.tuple #[]) ∧ Pair w' B b b' (s.fail n) t x o ∧ Below B w w' :=
  Pair.oneC hB h fun r d => (fail_any d n hn).mono fun e w' ⟨he, k1, k3⟩ => ⟨he, r, k1, fun k hk => .inl hk, k3.mono fun k _ e => .inl e⟩
theorem pd_crash {w : World} {B b b' : Nat} {s : DS} {t : RS} {x : Nat} {o : Obj} (hB : B ≤ w.heap.size) (h : Pair w B b b' s t x o) {n : Int} (hn : -9223372036854775808 ≤ n ∧ n ≤ 9223372036854775807) (hbig : s.p.length ≤ 140737488355328) :
    Calls Tryd.prog 30 #[.pointer (some ⟨b, 0, none⟩), .int .i64 n] w fun e w' => e = .returned (.tuple #[]) ∧ Pair w' B b b' (s.crash n) t x o ∧ Below B w w' :=
  Pair.oneC hB h fun r d => (crash_any d hn hbig).mono fun e w' ⟨he, r', k1, k2, k3⟩ => ⟨he, r', k1, fun k hk => .inr (k2 k hk), k3.mono fun k _ e => .inl e⟩
theorem pr_append {w : World} {B b b' : Nat} {s : DS} {t : RS} {x : Nat} {o : Obj} (hB : B ≤ w.heap.size) (h : Pair w B b b' s t x o) {A2 : Option Addr} {c2 : Nat} {q : List UInt8} (hq : BSA w A2 c2 q) (hqb : ∀ ad, A2 = some ad → 0 < q.length → ad.block ≠ b') (hbig : t.p.length + q.length ≤ 140737488355328) :
    Calls Tryd.prog 32 #[.pointer (some ⟨b', 0, none⟩), .slice A2 q.length c2] w fun e w' => e = .returned (.int .i64 t.errno) ∧ Pair w' B b b' s (t.append q) x o ∧ Below B w w' :=
  Pair.twoC hB h fun r d => rappend_any d hq hqb hbig
theorem pr_sync {w : World} {B b b' : Nat} {s : DS} {t : RS} {x : Nat} {o : Obj} (hB : B ≤ w.heap.size) (h : Pair w B b b' s t x o)  :
    Calls Tryd.prog 33 #[.pointer (some ⟨b', 0, none⟩)] w fun e w' => e = .returned (.int .i64 t.errno) ∧ Pair w' B b b' s (t.sync) x o ∧ Below B w w' :=
  Pair.twoC hB h fun r d => (rsync_any d).mono fun e w' ⟨he, k1, k3⟩ => ⟨he, r, k1, fun k hk => .inl hk, k3.mono fun k _ e => .inl e⟩
theorem pr_cut {w : World} {B b b' : Nat} {s : DS} {t : RS} {x : Nat} {o : Obj} (hB : B ≤ w.heap.size) (h : Pair w B b b' s t x o) {n : Int} (hbig : t.p.length ≤ 140737488355328) :
    Calls Tryd.prog 42 #[.pointer (some ⟨b', 0, none⟩), .int .i64 n] w fun e w' => e = .returned (.int .i64 t.errno) ∧ Pair w' B b b' s (t.cuts n) x o ∧ Below B w w' :=
  Pair.twoC hB h fun r d => rcut_any d hbig
theorem pr_fail {w : World} {B b b' : Nat} {s : DS} {t : RS} {x : Nat} {o : Obj} (hB : B ≤ w.heap.size) (h : Pair w B b b' s t x o) {n : Int} (hn : n ≤ 9223372036854775807) :
    Calls Tryd.prog 23 #[.pointer (some ⟨b', 0, none⟩), .int .i64 n] w fun e w' => e = .returned (.tuple #[]) ∧ Pair w' B b b' s (t.fail n) x o ∧ Below B w w' :=
  Pair.twoC hB h fun r d => (rfail_any d n hn).mono fun e w' ⟨he, k1, k3⟩ => ⟨he, r, k1, fun k hk => .inl hk, k3.mono fun k _ e => .inl e⟩
theorem pr_crash {w : World} {B b b' : Nat} {s : DS} {t : RS} {x : Nat} {o : Obj} (hB : B ≤ w.heap.size) (h : Pair w B b b' s t x o) {n : Int} (hn : n ≤ 9223372036854775807) (hbig : t.p.length ≤ 140737488355328) :
    Calls Tryd.prog 34 #[.pointer (some ⟨b', 0, none⟩), .int .i64 n] w fun e w' => e = .returned (.tuple #[]) ∧ Pair w' B b b' s (t.crash n) x o ∧ Below B w w' :=
  Pair.twoC hB h fun r d => rcrash_any d hbig hn

theorem Pair.obj {w : World} {B b b' : Nat} {s : DS} {t : RS} {x : Nat} {o : Obj} (h : Pair w B b b' s t x o) : w.heap[x]? = some o := by
  obtain ⟨r, r', _, _, _, _, h5, _⟩ := h
  exact h5
theorem Pair.from_ {w : World} {B b b' : Nat} {s : DS} {t : RS} {x : Nat} {o : Obj} (h : Pair w B b b' s t x o) : B ≤ b ∧ B ≤ b' := by
  obtain ⟨r, r', _, _, h3, _⟩ := h
  exact ⟨h3.1, h3.2.1⟩
end Go.Proofs.YtponofojildbmaaDoor
