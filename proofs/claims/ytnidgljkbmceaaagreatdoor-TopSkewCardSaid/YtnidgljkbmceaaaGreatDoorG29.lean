/- TopSkew's walks: the engine's moments ahead of the committer. (printed by gen_st.py) -/
import Derived.Test.YtnidgljkbmceaaaGreatDoorG24
import Derived.Test.YtnidgljkbmceaaaGreatDoorG27
import Derived.Test.YtnidgljkbmceaaaGreatDoorG28
import Derived.Test.YtnidgljkbmceaaaGreatDoorG17
import Derived.Test.YtnidgljkbmceaaaGreatDoorG26
set_option linter.unusedVariables false
set_option linter.unusedSimpArgs false
namespace Go.Proofs.YtnidgljkbmceaaaGreatDoor
open Go.RowKit PrintLast Go.Maps Go.MapKept
set_option maxRecDepth 100000 in
theorem cloneV_none {w : World} : Calls Tryz.prog 43 #[.slice none 0 0] w fun e w' => e = .returned (.slice none 0 0) ∧ w = w' := by
  have q22 := @eqlVal
  go_enter Tryz.func43, Tryz.ntmps43
  go_wp2
  go_ret
  exact ⟨rfl, rfl⟩
def doTs : List TypeId := [64, 81, 38, 95, 160]
theorem doTs_no {ts : List TypeId} (h : ∀ t ∈ ts, t ∈ doTs) {t : TypeId} (ht : t ∉ doTs) : t ∉ ts := fun q => ht (h _ q)
structure Fx where
  (B0 E L P Q lg dk S SM O Tb tc C R rc X Y na nb : Nat)
structure Fx.Low (x : Fx) : Prop where
  e : x.B0 ≤ x.E
  l : x.B0 ≤ x.L
  p : x.B0 ≤ x.P
  q : x.B0 ≤ x.Q
  g : x.B0 ≤ x.lg
  d : x.B0 ≤ x.dk
  s : x.B0 ≤ x.S
  m : x.B0 ≤ x.SM
  o : x.B0 ≤ x.O
  r : x.B0 ≤ x.R
  ap : x.O ≠ x.SM
  ha : x.na < 256
  hb : x.nb < 256
structure Fx.Base (x : Fx) (w : World) : Prop where
  tab : TabB x.B0 w
  sto : w.heap[x.S]? = some (.cells (stoC x.SM 0) 137 (0, 0))
  smap : w.heap[x.SM]? = some (.map #[] 0)
  sta : StAt w x.R 1 x.rc none
  ctab : TabK w x.Tb x.C
  log : LogK w x.dk x.lg none 0
  grp : w.heap[x.P]? = some (.cells (grpC x.L x.lg x.Q 0 (.slice none 0 0) (.slice none 0 0) 0 (.slice none 0 0)) 113 (0, 0))
  vx : ValsAt w x.X x.na
  vy : ValsAt w x.Y (x.nb + 300)
theorem Fx.Base.keeps {x : Fx} {w w' : World} {ts : List TypeId} {ms : List Nat} (h : x.Base w) (hk : KT ts ms [] w w') (hb : Below x.B0 w w') (ht : ∀ t ∈ ts, t ∈ doTs) (hm : x.SM ∉ ms) : x.Base w' :=
  ⟨h.tab.low hb, hk.cells h.sto ⟨doTs_no ht (by decide), by decide⟩, hk.map h.smap hm, h.sta.keeps hk (doTs_no ht (by decide)), h.ctab.keeps hk ⟨doTs_no ht (by decide), doTs_no ht (by decide)⟩,
    h.log.keeps hk ⟨doTs_no ht (by decide), doTs_no ht (by decide), doTs_no ht (by decide)⟩ (fun _ _ q => by cases q), hk.cells h.grp ⟨doTs_no ht (by decide), by decide⟩, h.vx.keeps hk (doTs_no ht (by decide)), h.vy.keeps hk (doTs_no ht (by decide))⟩
def EngH (w : World) (B0 E L P : Nat) (ca cb : Cli) (hn : Nat) (now : Int) : Prop := ∃ hv, w.heap[E]? = some (.cells (engS L P ca cb hv now) 64 (0, 0)) ∧ HistK w hv hn ∧ ∀ k, hv.ownBlock = some k → B0 ≤ k
theorem EngH.keeps {w w' : World} {B0 E L P hn : Nat} {ca cb : Cli} {now : Int} {ts : List TypeId} {ms rs : List Nat} (h : EngH w B0 E L P ca cb hn now) (hk : KT ts ms rs w w') (ht : 64 ∉ ts ∧ 81 ∉ ts) : EngH w' B0 E L P ca cb hn now := by
  obtain ⟨hv, h1, h2, h3⟩ := h
  exact ⟨hv, hk.cells h1 ⟨ht.1, by decide⟩, h2.keeps hk ht.2, h3⟩
structure St (x : Fx) (w : World) (next : Int) (es : Array MapEntry) (cl : Nat) (ca cb : Cli) (hn : Nat) (now : Int) (qa : Array Value) : Prop where
  base : x.Base w
  led : w.heap[x.L]? = some (.cells (ledC x.Tb x.tc x.S x.O next x.R 1 x.rc) 95 (0, 0))
  opn : w.heap[x.O]? = some (.map es cl)
  eng : EngH w x.B0 x.E x.L x.P ca cb hn now
  que : w.heap[x.Q]? = some (.cells qa 160 (0, 0))
theorem low_do {E B0 : Nat} {hv : Value} {bs : List Nat} (hE : B0 ≤ E) (hh : ∀ k, hv.ownBlock = some k → B0 ≤ k) (hbs : ∀ b ∈ bs, B0 ≤ b) : ∀ b ∈ E :: (hv.ownBlock.toList ++ bs), B0 ≤ b := by
  intro b hb
  rcases List.mem_cons.1 hb with rfl | hb
  · exact hE
  rcases List.mem_append.1 hb with hb | hb
  · cases e : hv.ownBlock with
    | none => rw [e] at hb; cases hb
    | some k =>
      rw [e] at hb
      have q : b = k := by simpa using hb
      exact q ▸ hh k e
  · exact hbs b hb
def BegZ (x : Fx) (S0 : Nat) (next : Int) (es : Array MapEntry) (cl : Nat) (w : World) : Prop := w.heap[x.L]? = some (.cells (ledC x.Tb x.tc x.S x.O (next + 1) x.R 1 x.rc) 95 (0, 0)) ∧ ∃ T M, w.heap[x.O]? = some (.map (es.push ⟨.int .i64 (next + 1), .pointer (some ⟨T, 0, none⟩), cl⟩) (cl + 1)) ∧ w.heap[T]? = some (.cells (txC M) 306 (0, 0)) ∧ w.heap[M]? = some (.map #[] 0) ∧ S0 ≤ T ∧ S0 ≤ M
theorem BegZ.keeps {x : Fx} {S0 cl : Nat} {next : Int} {es : Array MapEntry} {w w' : World} {ts : List TypeId} (h : BegZ x S0 next es cl w) (hk : KT ts [] [] w w') (ht : 95 ∉ ts ∧ 306 ∉ ts) : BegZ x S0 next es cl w' := by
  obtain ⟨h1, T, M, h2, h3, h4, h5, h6⟩ := h
  exact ⟨hk.cells h1 ⟨ht.1, by decide⟩, T, M, hk.map h2 (by simp), hk.cells h3 ⟨ht.2, by decide⟩, hk.map h4 (by simp), h5, h6⟩
def PutZ (M m : Nat) (w : World) : Prop := ∃ r, w.heap[M]? = some (.map #[entS (keyS m) (.agg #[.string (keyS m), r, .bool false]) 0] 1) ∧ OwnB w r (rowN m)
theorem PutZ.keeps {M m : Nat} {w w' : World} {ts : List TypeId} (h : PutZ M m w) (hk : KT ts [] [] w w') (ht : 5 ∉ ts) : PutZ M m w' := by
  obtain ⟨r, h1, h2⟩ := h
  exact ⟨r, hk.map h1 (by simp), h2.keeps hk ht (fun _ _ q => by cases q)⟩
set_option maxHeartbeats 1600000 in
theorem sbegin_0 {x : Fx} (lo : x.Low) {w : World} {next : Int} {es : Array MapEntry} {cl hn : Nat} {ca cb : Cli} {now : Int} {qa : Array Value} (h : St x w next es cl ca cb hn now qa) (hx : ca.tx = 0) (hw : ca.waits = false) (hnx : 0 ≤ next ∧ next ≤ 1000) (hf : Instr.findNow (.int .i64) (.int .i64 (next + 1)) es.toList 0 = some none) (hn9 : hn ≤ 100) (hnow : 0 ≤ now ∧ now ≤ 1000) :
    Calls Tryz.prog 8 #[.pointer (some ⟨x.E, 0, none⟩), .int .i64 0, .agg #[.int .u8 1, .int .i64 0, .slice none 0 0, .string ⟨#[]⟩, .int .i64 0]] w fun e w' => e = .returned (.tuple #[okV, .bool true]) ∧ ∃ T M, St x w' (next + 1) (es.push ⟨.int .i64 (next + 1), .pointer (some ⟨T, 0, none⟩), cl⟩) (cl + 1) ({ ca with tx := next + 1 }) (cb) (hn + 1) (now + 1) qa ∧ w'.heap[T]? = some (.cells (txC M) 306 (0, 0)) ∧ w'.heap[M]? = some (.map #[] 0) ∧ w.heap.size ≤ T ∧ w.heap.size ≤ M ∧ KT doTs [x.O] [] w w' ∧ Below x.B0 w w' := by
  obtain ⟨hv, hE, hH, hb⟩ := h.eng
  refine (do_gt (o := 2) (cI := 0) (bs := [x.E, x.L, x.O]) (ts := [64, 95]) (ms := [x.O]) (rs := []) (ZZ := BegZ x w.heap.size next es cl) (a' := { ca with tx := next + 1 }) (b' := cb) hE (fun h n => by show some (Value.bool ca.waits) = _; rw [hw]) (fun w1 => of_any (w := w1) (E := x.E) (c := 0) (by omega)) hnow hH hn9 (by decide) (fun w3 e3 k3 => ?_) (fun w1 k1 => copied_k (fun w2 b2 => cloneV_none.mono (by rintro e w' ⟨rfl, rfl⟩; exact ⟨none, 0, 0, rfl, Below.refl _ _⟩)))).mono ?_
  · have l3 := k3.1.cells h.led (by decide)
    have o3 := k3.1.map h.opn (by simp)
    have s3 := k3.1.cells h.base.sto (by decide)
    have z3 := k3.1.size
    refine (answer_1 (bs := [x.E, x.L, x.O]) (ts := [64, 95]) (ms := [x.O]) (rs := []) (ZB := fun w' => BegZ x w.heap.size next es cl w' ∧ w'.heap[x.E]? = some (.cells (engS x.L x.P ({ ca with tx := next + 1 }) (cb) hv (now + 1)) 64 (0, 0))) (fun w4 b4 => ?_) (by decide) (fun w5 w6 q k => ⟨q.1.keeps k (by decide), k.cells q.2 (by decide)⟩)).mono ?_
    · refine (begin_0 (id := next + 1) (bs := [x.L, x.O]) (ts := [95]) (ms := [x.O]) (rs := []) (ZB := BegZ x w.heap.size next es cl) (below_heap b4 e3) hx (fun w5 b5 => ?_) (by decide) (fun w5 w6 q k => q.keeps k (by decide))).mono ?_
      · refine (lbegin_any (below_heap b5 (below_heap b4 l3)) hnx (below_heap b5 (below_heap b4 o3)) hf (below_heap b5 (below_heap b4 s3))).mono ?_
        rintro e w' ⟨rfl, q1, T, M, q2, q3, q4, q5, q6, q7⟩
        have z4 := b4.size
        have z5 := b5.size
        exact ⟨rfl, ⟨q1, T, M, q2, q3, q4, by omega, by omega⟩, q7⟩
      · rintro e w' ⟨rfl, q1, q2, q3⟩
        exact ⟨rfl, ⟨q1, q2⟩, q3⟩
    · rintro e w' ⟨rfl, ⟨q1, q2⟩, q3⟩
      exact ⟨rfl, q1, q2, q3⟩
  · rintro e w' ⟨rfl, w4, hv', zz, k4, e', h', kb, hb'⟩
    have bl := kb.2 x.B0 h.base.tab.1 (low_do lo.e hb (by simp [lo.e, lo.l, lo.o]))
    have kt : KT doTs [x.O] [] w w' := kb.1.mono (by decide) (by simp) (by simp)
    obtain ⟨q1, T, M, q2, q3, q4, q5, q6⟩ := zz.keeps k4 (by decide)
    have z0 := h.base.tab.1
    exact ⟨rfl, T, M, ⟨h.base.keeps kt bl (fun _ q => q) (by simp; exact fun q => lo.ap q.symm), q1, q2, ⟨hv', e', h', fun k hk => (hb' k hk).elim (hb k) (fun q => Nat.le_trans z0 q)⟩, kb.1.cells h.que (by decide)⟩, q3, q4, q5, q6, kt, bl⟩
set_option maxHeartbeats 1600000 in
theorem sbegin_1 {x : Fx} (lo : x.Low) {w : World} {next : Int} {es : Array MapEntry} {cl hn : Nat} {ca cb : Cli} {now : Int} {qa : Array Value} (h : St x w next es cl ca cb hn now qa) (hx : cb.tx = 0) (hw : cb.waits = false) (hnx : 0 ≤ next ∧ next ≤ 1000) (hf : Instr.findNow (.int .i64) (.int .i64 (next + 1)) es.toList 0 = some none) (hn9 : hn ≤ 100) (hnow : 0 ≤ now ∧ now ≤ 1000) :
    Calls Tryz.prog 8 #[.pointer (some ⟨x.E, 0, none⟩), .int .i64 1, .agg #[.int .u8 1, .int .i64 0, .slice none 0 0, .string ⟨#[]⟩, .int .i64 0]] w fun e w' => e = .returned (.tuple #[okV, .bool true]) ∧ ∃ T M, St x w' (next + 1) (es.push ⟨.int .i64 (next + 1), .pointer (some ⟨T, 0, none⟩), cl⟩) (cl + 1) (ca) ({ cb with tx := next + 1 }) (hn + 1) (now + 1) qa ∧ w'.heap[T]? = some (.cells (txC M) 306 (0, 0)) ∧ w'.heap[M]? = some (.map #[] 0) ∧ w.heap.size ≤ T ∧ w.heap.size ≤ M ∧ KT doTs [x.O] [] w w' ∧ Below x.B0 w w' := by
  obtain ⟨hv, hE, hH, hb⟩ := h.eng
  refine (do_gt (o := 11) (cI := 1) (bs := [x.E, x.L, x.O]) (ts := [64, 95]) (ms := [x.O]) (rs := []) (ZZ := BegZ x w.heap.size next es cl) (a' := ca) (b' := { cb with tx := next + 1 }) hE (fun h n => by show some (Value.bool cb.waits) = _; rw [hw]) (fun w1 => of_any (w := w1) (E := x.E) (c := 1) (by omega)) hnow hH hn9 (by decide) (fun w3 e3 k3 => ?_) (fun w1 k1 => copied_k (fun w2 b2 => cloneV_none.mono (by rintro e w' ⟨rfl, rfl⟩; exact ⟨none, 0, 0, rfl, Below.refl _ _⟩)))).mono ?_
  · have l3 := k3.1.cells h.led (by decide)
    have o3 := k3.1.map h.opn (by simp)
    have s3 := k3.1.cells h.base.sto (by decide)
    have z3 := k3.1.size
    refine (answer_1 (bs := [x.E, x.L, x.O]) (ts := [64, 95]) (ms := [x.O]) (rs := []) (ZB := fun w' => BegZ x w.heap.size next es cl w' ∧ w'.heap[x.E]? = some (.cells (engS x.L x.P (ca) ({ cb with tx := next + 1 }) hv (now + 1)) 64 (0, 0))) (fun w4 b4 => ?_) (by decide) (fun w5 w6 q k => ⟨q.1.keeps k (by decide), k.cells q.2 (by decide)⟩)).mono ?_
    · refine (begin_1 (id := next + 1) (bs := [x.L, x.O]) (ts := [95]) (ms := [x.O]) (rs := []) (ZB := BegZ x w.heap.size next es cl) (below_heap b4 e3) hx (fun w5 b5 => ?_) (by decide) (fun w5 w6 q k => q.keeps k (by decide))).mono ?_
      · refine (lbegin_any (below_heap b5 (below_heap b4 l3)) hnx (below_heap b5 (below_heap b4 o3)) hf (below_heap b5 (below_heap b4 s3))).mono ?_
        rintro e w' ⟨rfl, q1, T, M, q2, q3, q4, q5, q6, q7⟩
        have z4 := b4.size
        have z5 := b5.size
        exact ⟨rfl, ⟨q1, T, M, q2, q3, q4, by omega, by omega⟩, q7⟩
      · rintro e w' ⟨rfl, q1, q2, q3⟩
        exact ⟨rfl, ⟨q1, q2⟩, q3⟩
    · rintro e w' ⟨rfl, ⟨q1, q2⟩, q3⟩
      exact ⟨rfl, q1, q2, q3⟩
  · rintro e w' ⟨rfl, w4, hv', zz, k4, e', h', kb, hb'⟩
    have bl := kb.2 x.B0 h.base.tab.1 (low_do lo.e hb (by simp [lo.e, lo.l, lo.o]))
    have kt : KT doTs [x.O] [] w w' := kb.1.mono (by decide) (by simp) (by simp)
    obtain ⟨q1, T, M, q2, q3, q4, q5, q6⟩ := zz.keeps k4 (by decide)
    have z0 := h.base.tab.1
    exact ⟨rfl, T, M, ⟨h.base.keeps kt bl (fun _ q => q) (by simp; exact fun q => lo.ap q.symm), q1, q2, ⟨hv', e', h', fun k hk => (hb' k hk).elim (hb k) (fun q => Nat.le_trans z0 q)⟩, kb.1.cells h.que (by decide)⟩, q3, q4, q5, q6, kt, bl⟩
set_option maxHeartbeats 1600000 in
theorem sget_0 {x : Fx} (lo : x.Low) {w : World} {next id : Int} {es : Array MapEntry} {cl hn i T M : Nat} {ca cb : Cli} {now : Int} {qa : Array Value} (h : St x w next es cl ca cb hn now qa) (hx : ca.tx = id) (h0 : id ≠ 0) (hw : ca.waits = false) (hf : Instr.findNow (.int .i64) (.int .i64 id) es.toList 0 = some (some (i, .pointer (some ⟨T, 0, none⟩)))) (hT : w.heap[T]? = some (.cells (txC M) 306 (0, 0))) (hM : w.heap[M]? = some (.map #[] 0)) (hn9 : hn ≤ 100) (hnow : 0 ≤ now ∧ now ≤ 1000) :
    Calls Tryz.prog 8 #[.pointer (some ⟨x.E, 0, none⟩), .int .i64 0, .agg #[.int .u8 2, .int .i64 0, .slice (some ⟨x.Y, 0, none⟩) 1 1, .string ⟨#[]⟩, .int .i64 0]] w fun e w' => e = .returned (.tuple #[okV, .bool true]) ∧ St x w' next es cl ca cb (hn + 1) (now + 1) qa ∧ KT doTs [] [] w w' ∧ Below x.B0 w w' := by
  obtain ⟨hv, hE, hH, hb⟩ := h.eng
  refine (do_gt (o := 2) (cI := 0) (bs := []) (ts := []) (ms := []) (rs := []) (ZZ := fun _ => True) (a' := ca) (b' := cb) hE (fun h n => by show some (Value.bool ca.waits) = _; rw [hw]) (fun w1 => of_any (w := w1) (E := x.E) (c := 0) (by omega)) hnow hH hn9 (by decide) (fun w3 e3 k3 => ?_) (fun w1 k1 => copied_k (fun w2 b2 => (cloneV_one ((h.base.vy.keeps k1 (by decide)).below b2)).mono (by rintro e w' ⟨A, c', rfl, b⟩; exact ⟨A, 1, c', rfl, b⟩)))).mono ?_
  · have l3 := k3.1.cells h.led (by decide)
    have o3 := k3.1.map h.opn (by simp)
    have s3 := k3.1.cells h.base.sto (by decide)
    have m3 := k3.1.map h.base.smap (by simp)
    have t3 := h.base.ctab.keeps k3.1 (by decide)
    have v3 := h.base.vy.keeps k3.1 (by decide)
    have T3 := k3.1.cells hT (by decide)
    have M3 := k3.1.map hM (by simp)
    refine (answer_2 (bs := []) (ts := []) (ms := []) (rs := []) (ZB := fun w' => w'.heap[x.E]? = some (.cells (engS x.L x.P ca cb hv (now + 1)) 64 (0, 0))) (fun w4 b4 => ?_) (by decide) (fun w5 w6 q k => k.cells q (by decide))).mono ?_
    · have e4 := below_heap b4 e3
      refine (within_get (id := id) (cell_at e4 (i := 0) rfl) ((cell_at e4 (i := 2) (v := .int .i64 ca.tx) rfl).trans (by rw [hx])) h0 (fun w5 b5 => lget_miss (by have := lo.hb; omega) (below_heap b5 (below_heap b4 l3)) (below_heap b5 (below_heap b4 o3)) hf ((t3.below b4).below b5) ((v3.below b4).below b5) (below_heap b5 (below_heap b4 T3)) (below_heap b5 (below_heap b4 M3)) (below_heap b5 (below_heap b4 s3)) (below_heap b5 (below_heap b4 m3)) rfl)).mono ?_
      rintro e w' ⟨rfl, b⟩
      exact ⟨rfl, below_heap b e4, KB.of_below b⟩
    · rintro e w' ⟨rfl, q2, q3⟩
      exact ⟨rfl, trivial, q2, q3⟩
  · rintro e w' ⟨rfl, w4, hv', -, k4, e', h', kb, hb'⟩
    have bl := kb.2 x.B0 h.base.tab.1 (low_do lo.e hb (by simp))
    have kt : KT doTs [] [] w w' := kb.1.mono (by decide) (by simp) (by simp)
    have z0 := h.base.tab.1
    have kl : KT [64, 81] [] [] w w' := kb.1
    exact ⟨rfl, ⟨h.base.keeps kt bl (fun _ q => q) (by simp), kl.cells h.led (by decide), kt.map h.opn (by simp), ⟨hv', e', h', fun k hk => (hb' k hk).elim (hb k) (fun q => Nat.le_trans z0 q)⟩, kl.cells h.que (by decide)⟩, kt, bl⟩
set_option maxHeartbeats 1600000 in
theorem sget_1 {x : Fx} (lo : x.Low) {w : World} {next id : Int} {es : Array MapEntry} {cl hn i T M : Nat} {ca cb : Cli} {now : Int} {qa : Array Value} (h : St x w next es cl ca cb hn now qa) (hx : cb.tx = id) (h0 : id ≠ 0) (hw : cb.waits = false) (hf : Instr.findNow (.int .i64) (.int .i64 id) es.toList 0 = some (some (i, .pointer (some ⟨T, 0, none⟩)))) (hT : w.heap[T]? = some (.cells (txC M) 306 (0, 0))) (hM : w.heap[M]? = some (.map #[] 0)) (hn9 : hn ≤ 100) (hnow : 0 ≤ now ∧ now ≤ 1000) :
    Calls Tryz.prog 8 #[.pointer (some ⟨x.E, 0, none⟩), .int .i64 1, .agg #[.int .u8 2, .int .i64 0, .slice (some ⟨x.X, 0, none⟩) 1 1, .string ⟨#[]⟩, .int .i64 0]] w fun e w' => e = .returned (.tuple #[okV, .bool true]) ∧ St x w' next es cl ca cb (hn + 1) (now + 1) qa ∧ KT doTs [] [] w w' ∧ Below x.B0 w w' := by
  obtain ⟨hv, hE, hH, hb⟩ := h.eng
  refine (do_gt (o := 11) (cI := 1) (bs := []) (ts := []) (ms := []) (rs := []) (ZZ := fun _ => True) (a' := ca) (b' := cb) hE (fun h n => by show some (Value.bool cb.waits) = _; rw [hw]) (fun w1 => of_any (w := w1) (E := x.E) (c := 1) (by omega)) hnow hH hn9 (by decide) (fun w3 e3 k3 => ?_) (fun w1 k1 => copied_k (fun w2 b2 => (cloneV_one ((h.base.vx.keeps k1 (by decide)).below b2)).mono (by rintro e w' ⟨A, c', rfl, b⟩; exact ⟨A, 1, c', rfl, b⟩)))).mono ?_
  · have l3 := k3.1.cells h.led (by decide)
    have o3 := k3.1.map h.opn (by simp)
    have s3 := k3.1.cells h.base.sto (by decide)
    have m3 := k3.1.map h.base.smap (by simp)
    have t3 := h.base.ctab.keeps k3.1 (by decide)
    have v3 := h.base.vx.keeps k3.1 (by decide)
    have T3 := k3.1.cells hT (by decide)
    have M3 := k3.1.map hM (by simp)
    refine (answer_2 (bs := []) (ts := []) (ms := []) (rs := []) (ZB := fun w' => w'.heap[x.E]? = some (.cells (engS x.L x.P ca cb hv (now + 1)) 64 (0, 0))) (fun w4 b4 => ?_) (by decide) (fun w5 w6 q k => k.cells q (by decide))).mono ?_
    · have e4 := below_heap b4 e3
      refine (within_get (id := id) (cell_at e4 (i := 0) rfl) ((cell_at e4 (i := 11) (v := .int .i64 cb.tx) rfl).trans (by rw [hx])) h0 (fun w5 b5 => lget_miss (by have := lo.ha; omega) (below_heap b5 (below_heap b4 l3)) (below_heap b5 (below_heap b4 o3)) hf ((t3.below b4).below b5) ((v3.below b4).below b5) (below_heap b5 (below_heap b4 T3)) (below_heap b5 (below_heap b4 M3)) (below_heap b5 (below_heap b4 s3)) (below_heap b5 (below_heap b4 m3)) rfl)).mono ?_
      rintro e w' ⟨rfl, b⟩
      exact ⟨rfl, below_heap b e4, KB.of_below b⟩
    · rintro e w' ⟨rfl, q2, q3⟩
      exact ⟨rfl, trivial, q2, q3⟩
  · rintro e w' ⟨rfl, w4, hv', -, k4, e', h', kb, hb'⟩
    have bl := kb.2 x.B0 h.base.tab.1 (low_do lo.e hb (by simp))
    have kt : KT doTs [] [] w w' := kb.1.mono (by decide) (by simp) (by simp)
    have z0 := h.base.tab.1
    have kl : KT [64, 81] [] [] w w' := kb.1
    exact ⟨rfl, ⟨h.base.keeps kt bl (fun _ q => q) (by simp), kl.cells h.led (by decide), kt.map h.opn (by simp), ⟨hv', e', h', fun k hk => (hb' k hk).elim (hb k) (fun q => Nat.le_trans z0 q)⟩, kl.cells h.que (by decide)⟩, kt, bl⟩
set_option maxHeartbeats 1600000 in
theorem sput_0 {x : Fx} (lo : x.Low) {w : World} {next id : Int} {es : Array MapEntry} {cl hn i T M : Nat} {ca cb : Cli} {now : Int} {qa : Array Value} (h : St x w next es cl ca cb hn now qa) (hx : ca.tx = id) (h0 : id ≠ 0) (hw : ca.waits = false) (hf : Instr.findNow (.int .i64) (.int .i64 id) es.toList 0 = some (some (i, .pointer (some ⟨T, 0, none⟩)))) (hT : w.heap[T]? = some (.cells (txC M) 306 (0, 0))) (hM : w.heap[M]? = some (.map #[] 0)) (hB : x.B0 ≤ M) (hMO : x.SM ≠ M ∧ x.O ≠ M) (hn9 : hn ≤ 100) (hnow : 0 ≤ now ∧ now ≤ 1000) :
    Calls Tryz.prog 8 #[.pointer (some ⟨x.E, 0, none⟩), .int .i64 0, .agg #[.int .u8 4, .int .i64 0, .slice (some ⟨x.X, 0, none⟩) 1 1, .string ⟨#[]⟩, .int .i64 0]] w fun e w' => e = .returned (.tuple #[okV, .bool true]) ∧ St x w' next es cl ca cb (hn + 1) (now + 1) qa ∧ PutZ M (x.na) w' ∧ KT doTs [M] [] w w' ∧ Below x.B0 w w' := by
  obtain ⟨hv, hE, hH, hb⟩ := h.eng
  refine (do_gt (o := 2) (cI := 0) (bs := [M]) (ts := []) (ms := [M]) (rs := []) (ZZ := PutZ M (x.na)) (a' := ca) (b' := cb) hE (fun h n => by show some (Value.bool ca.waits) = _; rw [hw]) (fun w1 => of_any (w := w1) (E := x.E) (c := 0) (by omega)) hnow hH hn9 (by decide) (fun w3 e3 k3 => ?_) (fun w1 k1 => copied_k (fun w2 b2 => (cloneV_one ((h.base.vx.keeps k1 (by decide)).below b2)).mono (by rintro e w' ⟨A, c', rfl, b⟩; exact ⟨A, 1, c', rfl, b⟩)))).mono ?_
  · have l3 := k3.1.cells h.led (by decide)
    have o3 := k3.1.map h.opn (by simp)
    have t3 := h.base.ctab.keeps k3.1 (by decide)
    have v3 := h.base.vx.keeps k3.1 (by decide)
    have T3 := k3.1.cells hT (by decide)
    have M3 := k3.1.map hM (by simp)
    refine (answer_4 (bs := [M]) (ts := []) (ms := [M]) (rs := []) (ZB := fun w' => PutZ M (x.na) w' ∧ w'.heap[x.E]? = some (.cells (engS x.L x.P ca cb hv (now + 1)) 64 (0, 0))) (fun w4 b4 => ?_) (by decide) (fun w5 w6 q k => ⟨q.1.keeps k (by decide), k.cells q.2 (by decide)⟩)).mono ?_
    · have e4 := below_heap b4 e3
      refine (within_put (id := id) (bs := [M]) (ts := []) (ms := [M]) (rs := []) (ZB := fun w' => PutZ M (x.na) w' ∧ w'.heap[x.E]? = some (.cells (engS x.L x.P ca cb hv (now + 1)) 64 (0, 0))) (cell_at e4 (i := 0) rfl) ((cell_at e4 (i := 2) (v := .int .i64 ca.tx) rfl).trans (by rw [hx])) h0 (fun w5 b5 => ?_) (by decide) (fun w5 w6 q k => ⟨q.1.keeps k (by decide), k.cells q.2 (by decide)⟩)).mono ?_
      · have M5 := below_heap b5 (below_heap b4 M3)
        have e5 := below_heap b5 e4
        refine (lput_one (by have := lo.ha; omega) (below_heap b5 (below_heap b4 l3)) (below_heap b5 (below_heap b4 o3)) hf ((t3.below b4).below b5) ((v3.below b4).below b5) (by omega) (below_heap b5 (below_heap b4 T3)) M5).mono ?_
        rintro e w' ⟨rfl, ⟨r, q1, q2, -⟩, q3⟩
        have kk : KB [M] [] [M] [] w5 w' := KB.of_keepsM q3 M5 (by simp) (by simp)
        exact ⟨rfl, ⟨⟨r, q1, q2⟩, kk.1.cells e5 (by decide)⟩, kk⟩
      · rintro e w' ⟨rfl, q1, q3⟩
        exact ⟨rfl, q1, q3⟩
    · rintro e w' ⟨rfl, ⟨q1, q2⟩, q3⟩
      exact ⟨rfl, q1, q2, q3⟩
  · rintro e w' ⟨rfl, w4, hv', zz, k4, e', h', kb, hb'⟩
    have bl := kb.2 x.B0 h.base.tab.1 (low_do lo.e hb (by simp [hB]))
    have kt : KT doTs [M] [] w w' := kb.1.mono (by decide) (by simp) (by simp)
    have z0 := h.base.tab.1
    have kl : KT [64, 81] [M] [] w w' := kb.1
    exact ⟨rfl, ⟨h.base.keeps kt bl (fun _ q => q) (by simp; exact hMO.1), kl.cells h.led (by decide), kt.map h.opn (by simp; exact hMO.2), ⟨hv', e', h', fun k hk => (hb' k hk).elim (hb k) (fun q => Nat.le_trans z0 q)⟩, kl.cells h.que (by decide)⟩, zz.keeps k4 (by decide), kt, bl⟩
set_option maxHeartbeats 1600000 in
theorem sput_1 {x : Fx} (lo : x.Low) {w : World} {next id : Int} {es : Array MapEntry} {cl hn i T M : Nat} {ca cb : Cli} {now : Int} {qa : Array Value} (h : St x w next es cl ca cb hn now qa) (hx : cb.tx = id) (h0 : id ≠ 0) (hw : cb.waits = false) (hf : Instr.findNow (.int .i64) (.int .i64 id) es.toList 0 = some (some (i, .pointer (some ⟨T, 0, none⟩)))) (hT : w.heap[T]? = some (.cells (txC M) 306 (0, 0))) (hM : w.heap[M]? = some (.map #[] 0)) (hB : x.B0 ≤ M) (hMO : x.SM ≠ M ∧ x.O ≠ M) (hn9 : hn ≤ 100) (hnow : 0 ≤ now ∧ now ≤ 1000) :
    Calls Tryz.prog 8 #[.pointer (some ⟨x.E, 0, none⟩), .int .i64 1, .agg #[.int .u8 4, .int .i64 0, .slice (some ⟨x.Y, 0, none⟩) 1 1, .string ⟨#[]⟩, .int .i64 0]] w fun e w' => e = .returned (.tuple #[okV, .bool true]) ∧ St x w' next es cl ca cb (hn + 1) (now + 1) qa ∧ PutZ M (x.nb + 300) w' ∧ KT doTs [M] [] w w' ∧ Below x.B0 w w' := by
  obtain ⟨hv, hE, hH, hb⟩ := h.eng
  refine (do_gt (o := 11) (cI := 1) (bs := [M]) (ts := []) (ms := [M]) (rs := []) (ZZ := PutZ M (x.nb + 300)) (a' := ca) (b' := cb) hE (fun h n => by show some (Value.bool cb.waits) = _; rw [hw]) (fun w1 => of_any (w := w1) (E := x.E) (c := 1) (by omega)) hnow hH hn9 (by decide) (fun w3 e3 k3 => ?_) (fun w1 k1 => copied_k (fun w2 b2 => (cloneV_one ((h.base.vy.keeps k1 (by decide)).below b2)).mono (by rintro e w' ⟨A, c', rfl, b⟩; exact ⟨A, 1, c', rfl, b⟩)))).mono ?_
  · have l3 := k3.1.cells h.led (by decide)
    have o3 := k3.1.map h.opn (by simp)
    have t3 := h.base.ctab.keeps k3.1 (by decide)
    have v3 := h.base.vy.keeps k3.1 (by decide)
    have T3 := k3.1.cells hT (by decide)
    have M3 := k3.1.map hM (by simp)
    refine (answer_4 (bs := [M]) (ts := []) (ms := [M]) (rs := []) (ZB := fun w' => PutZ M (x.nb + 300) w' ∧ w'.heap[x.E]? = some (.cells (engS x.L x.P ca cb hv (now + 1)) 64 (0, 0))) (fun w4 b4 => ?_) (by decide) (fun w5 w6 q k => ⟨q.1.keeps k (by decide), k.cells q.2 (by decide)⟩)).mono ?_
    · have e4 := below_heap b4 e3
      refine (within_put (id := id) (bs := [M]) (ts := []) (ms := [M]) (rs := []) (ZB := fun w' => PutZ M (x.nb + 300) w' ∧ w'.heap[x.E]? = some (.cells (engS x.L x.P ca cb hv (now + 1)) 64 (0, 0))) (cell_at e4 (i := 0) rfl) ((cell_at e4 (i := 11) (v := .int .i64 cb.tx) rfl).trans (by rw [hx])) h0 (fun w5 b5 => ?_) (by decide) (fun w5 w6 q k => ⟨q.1.keeps k (by decide), k.cells q.2 (by decide)⟩)).mono ?_
      · have M5 := below_heap b5 (below_heap b4 M3)
        have e5 := below_heap b5 e4
        refine (lput_one (by have := lo.hb; omega) (below_heap b5 (below_heap b4 l3)) (below_heap b5 (below_heap b4 o3)) hf ((t3.below b4).below b5) ((v3.below b4).below b5) (by omega) (below_heap b5 (below_heap b4 T3)) M5).mono ?_
        rintro e w' ⟨rfl, ⟨r, q1, q2, -⟩, q3⟩
        have kk : KB [M] [] [M] [] w5 w' := KB.of_keepsM q3 M5 (by simp) (by simp)
        exact ⟨rfl, ⟨⟨r, q1, q2⟩, kk.1.cells e5 (by decide)⟩, kk⟩
      · rintro e w' ⟨rfl, q1, q3⟩
        exact ⟨rfl, q1, q3⟩
    · rintro e w' ⟨rfl, ⟨q1, q2⟩, q3⟩
      exact ⟨rfl, q1, q2, q3⟩
  · rintro e w' ⟨rfl, w4, hv', zz, k4, e', h', kb, hb'⟩
    have bl := kb.2 x.B0 h.base.tab.1 (low_do lo.e hb (by simp [hB]))
    have kt : KT doTs [M] [] w w' := kb.1.mono (by decide) (by simp) (by simp)
    have z0 := h.base.tab.1
    have kl : KT [64, 81] [M] [] w w' := kb.1
    exact ⟨rfl, ⟨h.base.keeps kt bl (fun _ q => q) (by simp; exact hMO.1), kl.cells h.led (by decide), kt.map h.opn (by simp; exact hMO.2), ⟨hv', e', h', fun k hk => (hb' k hk).elim (hb k) (fun q => Nat.le_trans z0 q)⟩, kl.cells h.que (by decide)⟩, zz.keeps k4 (by decide), kt, bl⟩
set_option maxHeartbeats 1600000 in
theorem scommit_0 {x : Fx} (lo : x.Low) {w : World} {next id N ph : Int} {es : Array MapEntry} {cl hn i T M R ns rc cA : Nat} {ca cb : Cli} {now : Int} {qa qb : Array Value} {k : ByteArray} {r td wv : Value} {row : List UInt8} {A : Option Addr} (h : EngH w x.B0 x.E x.L x.P ca cb hn now) (hL : w.heap[x.L]? = some (.cells (ledC x.Tb x.tc x.S x.O next R ns rc) 95 (0, 0))) (hO : w.heap[x.O]? = some (.map es cl)) (hP : w.heap[x.P]? = some (.cells (grpC x.L x.lg x.Q ph (.slice A 0 cA) td N wv) 113 (0, 0))) (hQ : w.heap[x.Q]? = some (.cells qa 160 (0, 0))) (hB : x.B0 ≤ w.heap.size)
    (hx : ca.tx = id) (h0 : id ≠ 0) (hw : ca.waits = false) (hf : Instr.findNow (.int .i64) (.int .i64 id) es.toList 0 = some (some (i, .pointer (some ⟨T, 0, none⟩)))) (hT : TxOk w ⟨id, T, M, k, r, row⟩) (hn9 : hn ≤ 100) (hnow : 0 ≤ now ∧ now ≤ 1000)
    (HH : ∀ w1, w1.heap[x.Q]? = some (.cells qa 160 (0, 0)) → Calls Tryz.prog 143 #[.pointer (some ⟨x.Q, 0, none⟩), .int .i64 id] w1 fun e w' => e = .returned (.bool false) ∧ Below w1.heap.size w1 w')
    (HP : ∀ w1, w1.heap[x.Q]? = some (.cells qa 160 (0, 0)) → Calls Tryz.prog 145 #[.pointer (some ⟨x.Q, 0, none⟩), .int .i64 id] w1 fun e w' => e = .returned (.bool true) ∧ w'.heap[x.Q]? = some (.cells qb 160 (0, 0)) ∧ KB [x.Q] [160] [] [] w1 w') :
    Calls Tryz.prog 8 #[.pointer (some ⟨x.E, 0, none⟩), .int .i64 0, .agg #[.int .u8 6, .int .i64 0, .slice none 0 0, .string ⟨#[]⟩, .int .i64 0]] w fun e w' => e = .returned (.tuple #[okV, .bool false]) ∧ EngH w' x.B0 x.E x.L x.P ({ ca with waits := true, entry := (hn : Int) }) (cb) (hn + 1) (now + 1) ∧ w'.heap[x.Q]? = some (.cells qb 160 (0, 0)) ∧ KT [64, 81, 160] [] [] w w' ∧ Below x.B0 w w' := by
  obtain ⟨hv, hE, hH, hb⟩ := h
  obtain ⟨xa, xn, xc, rfl⟩ : ∃ xa xn xc, hv = .slice xa xn xc := by
    obtain ⟨xs, hl, q⟩ := hH
    rcases q with ⟨rfl, _⟩ | ⟨g, cap, cur, rfl, _⟩
    · exact ⟨_, _, _, rfl⟩
    · exact ⟨_, _, _, rfl⟩
  obtain rfl : hn = xn := by
    obtain ⟨xs, hl, q⟩ := hH
    rcases q with ⟨q, rfl⟩ | ⟨g, cap, cur, q, _⟩
    · cases q; rfl
    · cases q; rfl
  refine (do_gf (o := 2) (cI := 0) (bs := [x.E, x.Q]) (ts := [64, 160]) (ms := []) (rs := []) (ZZ := fun w' => w'.heap[x.Q]? = some (.cells qb 160 (0, 0))) (a' := { ca with waits := true, entry := (hn : Int) }) (b' := cb) hE (fun h n => by show some (Value.bool ca.waits) = _; rw [hw]) (fun w1 => of_any (w := w1) (E := x.E) (c := 0) (by omega)) hnow hH hn9 (by decide) (fun w3 e3 k3 => ?_) (fun w1 k1 => copied_k (fun w2 b2 => cloneV_none.mono (by rintro e w' ⟨rfl, rfl⟩; exact ⟨none, 0, 0, rfl, Below.refl _ _⟩)))).mono ?_
  · have l3 := k3.1.cells hL (by decide)
    have o3 := k3.1.map hO (by simp)
    have p3 := k3.1.cells hP (by decide)
    have q3 := k3.1.cells hQ (by decide)
    have T3 := k3.1.cells hT.tx (by decide)
    have M3 := k3.1.map hT.map (by simp)
    have r3 := hT.row.keeps k3.1 (by decide) (fun _ _ q => by cases q)
    refine (answer_6 (bs := [x.E, x.Q]) (ts := [64, 160]) (ms := []) (rs := []) (ZB := fun w' => w'.heap[x.Q]? = some (.cells qb 160 (0, 0)) ∧ w'.heap[x.E]? = some (.cells (engS x.L x.P ({ ca with waits := true, entry := (hn : Int) }) (cb) (.slice xa hn xc) (now + 1)) 64 (0, 0))) (fun w4 b4 => ?_) (by decide) (fun w5 w6 q k => ⟨k.cells q.1 (by decide), k.cells q.2 (by decide)⟩)).mono ?_
    · refine (commit_0 (bs := [x.Q]) (ts := [160]) (ms := []) (rs := []) (ZB := fun w' => w'.heap[x.Q]? = some (.cells qb 160 (0, 0))) (below_heap b4 e3) hx h0 (fun w5 b5 => wrote_one (below_heap b5 (below_heap b4 l3)) (below_heap b5 (below_heap b4 o3)) hf (below_heap b5 (below_heap b4 T3)) (below_heap b5 (below_heap b4 M3)) ((r3.below b4).below b5) hT.key hT.len) (fun w5 b5 => ?_) (by decide) (fun w5 w6 q k => k.cells q (by decide))).mono ?_
      · exact gsubmit_k (below_heap b5 (below_heap b4 p3)) (open_hit (below_heap b5 (below_heap b4 l3)) (below_heap b5 (below_heap b4 o3)) hf) (HH _ (below_heap b5 (below_heap b4 q3))) (fun w6 b6 => HP _ (below_heap b6 (below_heap b5 (below_heap b4 q3))))
      · rintro e w' ⟨rfl, q1, q2, q3⟩
        exact ⟨rfl, ⟨q1, q2⟩, q3⟩
    · rintro e w' ⟨rfl, ⟨q1, q2⟩, q3⟩
      exact ⟨rfl, q1, q2, q3⟩
  · rintro e w' ⟨rfl, w4, hv', zz, k4, e', h', kb, hb'⟩
    have bl := kb.2 x.B0 hB (low_do lo.e hb (by simp [lo.e, lo.q]))
    have kt : KT [64, 81, 160] [] [] w w' := kb.1.mono (by decide) (by simp) (by simp)
    exact ⟨rfl, ⟨hv', e', h', fun k hk => (hb' k hk).elim (hb k) (fun q => Nat.le_trans hB q)⟩, k4.cells zz (by decide), kt, bl⟩
set_option maxHeartbeats 1600000 in
theorem scommit_1 {x : Fx} (lo : x.Low) {w : World} {next id N ph : Int} {es : Array MapEntry} {cl hn i T M R ns rc cA : Nat} {ca cb : Cli} {now : Int} {qa qb : Array Value} {k : ByteArray} {r td wv : Value} {row : List UInt8} {A : Option Addr} (h : EngH w x.B0 x.E x.L x.P ca cb hn now) (hL : w.heap[x.L]? = some (.cells (ledC x.Tb x.tc x.S x.O next R ns rc) 95 (0, 0))) (hO : w.heap[x.O]? = some (.map es cl)) (hP : w.heap[x.P]? = some (.cells (grpC x.L x.lg x.Q ph (.slice A 0 cA) td N wv) 113 (0, 0))) (hQ : w.heap[x.Q]? = some (.cells qa 160 (0, 0))) (hB : x.B0 ≤ w.heap.size)
    (hx : cb.tx = id) (h0 : id ≠ 0) (hw : cb.waits = false) (hf : Instr.findNow (.int .i64) (.int .i64 id) es.toList 0 = some (some (i, .pointer (some ⟨T, 0, none⟩)))) (hT : TxOk w ⟨id, T, M, k, r, row⟩) (hn9 : hn ≤ 100) (hnow : 0 ≤ now ∧ now ≤ 1000)
    (HH : ∀ w1, w1.heap[x.Q]? = some (.cells qa 160 (0, 0)) → Calls Tryz.prog 143 #[.pointer (some ⟨x.Q, 0, none⟩), .int .i64 id] w1 fun e w' => e = .returned (.bool false) ∧ Below w1.heap.size w1 w')
    (HP : ∀ w1, w1.heap[x.Q]? = some (.cells qa 160 (0, 0)) → Calls Tryz.prog 145 #[.pointer (some ⟨x.Q, 0, none⟩), .int .i64 id] w1 fun e w' => e = .returned (.bool true) ∧ w'.heap[x.Q]? = some (.cells qb 160 (0, 0)) ∧ KB [x.Q] [160] [] [] w1 w') :
    Calls Tryz.prog 8 #[.pointer (some ⟨x.E, 0, none⟩), .int .i64 1, .agg #[.int .u8 6, .int .i64 0, .slice none 0 0, .string ⟨#[]⟩, .int .i64 0]] w fun e w' => e = .returned (.tuple #[okV, .bool false]) ∧ EngH w' x.B0 x.E x.L x.P (ca) ({ cb with waits := true, entry := (hn : Int) }) (hn + 1) (now + 1) ∧ w'.heap[x.Q]? = some (.cells qb 160 (0, 0)) ∧ KT [64, 81, 160] [] [] w w' ∧ Below x.B0 w w' := by
  obtain ⟨hv, hE, hH, hb⟩ := h
  obtain ⟨xa, xn, xc, rfl⟩ : ∃ xa xn xc, hv = .slice xa xn xc := by
    obtain ⟨xs, hl, q⟩ := hH
    rcases q with ⟨rfl, _⟩ | ⟨g, cap, cur, rfl, _⟩
    · exact ⟨_, _, _, rfl⟩
    · exact ⟨_, _, _, rfl⟩
  obtain rfl : hn = xn := by
    obtain ⟨xs, hl, q⟩ := hH
    rcases q with ⟨q, rfl⟩ | ⟨g, cap, cur, q, _⟩
    · cases q; rfl
    · cases q; rfl
  refine (do_gf (o := 11) (cI := 1) (bs := [x.E, x.Q]) (ts := [64, 160]) (ms := []) (rs := []) (ZZ := fun w' => w'.heap[x.Q]? = some (.cells qb 160 (0, 0))) (a' := ca) (b' := { cb with waits := true, entry := (hn : Int) }) hE (fun h n => by show some (Value.bool cb.waits) = _; rw [hw]) (fun w1 => of_any (w := w1) (E := x.E) (c := 1) (by omega)) hnow hH hn9 (by decide) (fun w3 e3 k3 => ?_) (fun w1 k1 => copied_k (fun w2 b2 => cloneV_none.mono (by rintro e w' ⟨rfl, rfl⟩; exact ⟨none, 0, 0, rfl, Below.refl _ _⟩)))).mono ?_
  · have l3 := k3.1.cells hL (by decide)
    have o3 := k3.1.map hO (by simp)
    have p3 := k3.1.cells hP (by decide)
    have q3 := k3.1.cells hQ (by decide)
    have T3 := k3.1.cells hT.tx (by decide)
    have M3 := k3.1.map hT.map (by simp)
    have r3 := hT.row.keeps k3.1 (by decide) (fun _ _ q => by cases q)
    refine (answer_6 (bs := [x.E, x.Q]) (ts := [64, 160]) (ms := []) (rs := []) (ZB := fun w' => w'.heap[x.Q]? = some (.cells qb 160 (0, 0)) ∧ w'.heap[x.E]? = some (.cells (engS x.L x.P (ca) ({ cb with waits := true, entry := (hn : Int) }) (.slice xa hn xc) (now + 1)) 64 (0, 0))) (fun w4 b4 => ?_) (by decide) (fun w5 w6 q k => ⟨k.cells q.1 (by decide), k.cells q.2 (by decide)⟩)).mono ?_
    · refine (commit_1 (bs := [x.Q]) (ts := [160]) (ms := []) (rs := []) (ZB := fun w' => w'.heap[x.Q]? = some (.cells qb 160 (0, 0))) (below_heap b4 e3) hx h0 (fun w5 b5 => wrote_one (below_heap b5 (below_heap b4 l3)) (below_heap b5 (below_heap b4 o3)) hf (below_heap b5 (below_heap b4 T3)) (below_heap b5 (below_heap b4 M3)) ((r3.below b4).below b5) hT.key hT.len) (fun w5 b5 => ?_) (by decide) (fun w5 w6 q k => k.cells q (by decide))).mono ?_
      · exact gsubmit_k (below_heap b5 (below_heap b4 p3)) (open_hit (below_heap b5 (below_heap b4 l3)) (below_heap b5 (below_heap b4 o3)) hf) (HH _ (below_heap b5 (below_heap b4 q3))) (fun w6 b6 => HP _ (below_heap b6 (below_heap b5 (below_heap b4 q3))))
      · rintro e w' ⟨rfl, q1, q2, q3⟩
        exact ⟨rfl, ⟨q1, q2⟩, q3⟩
    · rintro e w' ⟨rfl, ⟨q1, q2⟩, q3⟩
      exact ⟨rfl, q1, q2, q3⟩
  · rintro e w' ⟨rfl, w4, hv', zz, k4, e', h', kb, hb'⟩
    have bl := kb.2 x.B0 hB (low_do lo.e hb (by simp [lo.e, lo.q]))
    have kt : KT [64, 81, 160] [] [] w w' := kb.1.mono (by decide) (by simp) (by simp)
    exact ⟨rfl, ⟨hv', e', h', fun k hk => (hb' k hk).elim (hb k) (fun q => Nat.le_trans hB q)⟩, k4.cells zz (by decide), kt, bl⟩
theorem settle_k {w : World} {E k : Nat} {M : Int} (I : Nat → World → Prop) (hk : k < 50) (hM : 60 ≤ M ∧ M ≤ 1000) (h0 : I 0 w)
    (hq : ∀ j w1, j < k → I j w1 → Calls Tryz.prog 13 #[.pointer (some ⟨E, 0, none⟩)] w1 fun e w' => e = .returned (.bool false) ∧ w1 = w')
    (hs : ∀ j w1, j < k → I j w1 → Calls Tryz.prog 22 #[.pointer (some ⟨E, 0, none⟩)] w1 fun e w' => e = .returned (.tuple #[]) ∧ I (j + 1) w')
    (ht : ∀ w1, I k w1 → Calls Tryz.prog 13 #[.pointer (some ⟨E, 0, none⟩)] w1 fun e w' => e = .returned (.bool true) ∧ w1 = w') :
    Calls Tryz.prog 9 #[.pointer (some ⟨E, 0, none⟩), .int .i64 M] w fun e w' => (∃ v, e = .returned (.int .i64 v)) ∧ I k w' := by
  have H := hid (And.intro h0 (And.intro hq (And.intro hs ht)))
  clear h0 hq hs ht
  go_enter Tryz.func9, Tryz.ntmps9
  go_wp2
  go_loopw [5] (fun v wr => ∃ j : Nat, j ≤ k ∧ v = .int .i64 (j : Int) ∧ Hid (I j wr)) (fun v _ => (M - intOf v).toNat)
  case atStart => exact ⟨0, by omega, rfl, hid H.out.1⟩
  case round =>
    obtain ⟨j, hj, rfl, hh⟩ := hrel
    have t1 : decide ((j : Int) < M) = true := by simp; omega
    have wk : wrap64 ((j : Int) + 1) = (j : Int) + 1 := by unfold wrap64; omega
    by_cases hlt : j < k
    · have HQ := hid (H.out.2.1 j wr hlt hh.out)
      have HS := hid (H.out.2.2.1 j wr hlt hh.out)
      have HL := hid hlt
      clear hlt hj hh
      go_wp2_with fail
      refine HQ.out.mono ?_
      rintro e _ ⟨rfl, rfl⟩
      go_wp2_with fail
      refine HS.out.mono ?_
      rintro e w1 ⟨rfl, i1⟩
      have HI := hid i1
      clear i1 HQ HS
      go_wp2
      go_roundw
      case rel => exact ⟨j + 1, HL.out, by go_num, HI⟩
      case measure =>
        rw [wk]
        clear wk t1 HI
        have q := HL.out
        show (M - ((j : Int) + 1)).toNat < (M - (j : Int)).toNat
        omega
    · obtain rfl : j = k := by omega
      have HT := hid (H.out.2.2.2 wr hh.out)
      go_wp2_with fail
      refine HT.out.mono ?_
      rintro e _ ⟨rfl, rfl⟩
      go_wp2
      go_ret
      exact ⟨⟨_, rfl⟩, hh.out⟩
structure Bt where
  x : Fx
  (n N ns q cl m R rc hn : Nat)
  tx : Nat → TxR
  ss : Array MapEntry
  Es : Nat → Array MapEntry
  (next now : Int)
  tv : Option Addr
  r : Option Nat
  cs : Nat → Cli × Cli
  qb : Array Value
  TF : Nat → World → Option Addr → Prop
structure Bt.Ok (b : Bt) : Prop where
  lo : b.x.Low
  lowR : b.x.B0 ≤ b.R
  lowr : ∀ k, b.r = some k → b.x.B0 ≤ k
  n1 : 1 ≤ b.n ∧ b.n ≤ 2
  hN : 1 ≤ b.N ∧ b.N ≤ 1000
  h4 : b.ns ≤ 4
  hm : b.m ≤ 9
  hh : b.hn ≤ 90
  hnow : 0 ≤ b.now ∧ b.now ≤ 900
  hof : ∀ j, j < b.n → ∃ i, Instr.findNow (.int .i64) (.int .i64 (b.tx j).id) (b.Es 0).toList 0 = some (some (i, .pointer (some ⟨(b.tx j).T, 0, none⟩)))
  hdel : ∀ j, j < b.n → ∃ i v, Instr.findNow (.int .i64) (.int .i64 (b.tx j).id) (b.Es j).toList 0 = some (some (i, v)) ∧ b.Es (j + 1) = (b.Es j).eraseIdxIfInBounds i
  miss : ∀ j, j < b.n → Miss (b.tx j).k b.ss
  hdi : ∀ j, j < b.n → ∀ m, m < j → (b.tx j).id ≠ (b.tx m).id
  hk : ∀ j, j < b.n → ∀ m, m < j → (b.tx j).k ≠ (b.tx m).k
  keys : ∀ m, m < b.n → 1 ≤ (b.tx m).k.size ∧ (b.tx m).k.size ≤ 1000
  lens : ∀ m, m < b.n → (b.tx m).row.length ≤ 1000
  beh : ∀ m, m < b.n → Behind (b.tx m).k (lastK b.tx m)
  be2 : b.n = 2 → Behind (b.tx 1).k (b.tx 0).k
structure Bt.Pre (b : Bt) (w : World) : Prop where
  tab : TabB b.x.B0 w
  led : w.heap[b.x.L]? = some (.cells (ledC b.x.Tb b.x.tc b.x.S b.x.O b.next b.R b.ns b.rc) 95 (0, 0))
  sta : StAt w b.R b.ns b.rc b.tv
  sto : w.heap[b.x.S]? = some (.cells (stoC b.x.SM ((b.N : Int) - 1)) 137 (0, 0))
  smap : w.heap[b.x.SM]? = some (.map b.ss b.q)
  opn : w.heap[b.x.O]? = some (.map (b.Es 0) b.cl)
  txs : ∀ j, j < b.n → TxOk w (b.tx j)
  log : LogK w b.x.dk b.x.lg b.r b.m
def Bt.ids (b : Bt) : List Value := (List.range b.n).map fun j => .int .i64 (b.tx j).id
theorem Bt.ids_get (b : Bt) {j : Nat} (h : j < b.n) : b.ids[j]? = some (.int .i64 (b.tx j).id) := by simp [Bt.ids, h]
theorem Bt.ids_one (b : Bt) : ∀ u ∈ b.ids, u.oneCell' = true := by
  intro u hu
  obtain ⟨j, -, rfl⟩ := List.mem_map.1 hu
  rfl
def Bt.Grp (b : Bt) (w : World) (ph : Int) (tk td : Value) (N : Int) (wv : Value) : Prop := w.heap[b.x.P]? = some (.cells (grpC b.x.L b.x.lg b.x.Q ph tk td N wv) 113 (0, 0))
def Bt.Eng (b : Bt) (w : World) (i : Nat) (now : Int) : Prop := EngH w b.x.B0 b.x.E b.x.L b.x.P (b.cs i).1 (b.cs i).2 b.hn now
structure Bt.Core (b : Bt) (w0 w : World) (I c g gc go co : Nat) (ws : List (ByteArray × Value)) : Prop where
  ids : w.ownsRow 0 3 1 (.slice (some ⟨I, 0, none⟩) b.n c) b.n b.ids
  told : w.ownsRow 0 24 1 (.slice (some ⟨go, 0, none⟩) b.n co) b.n (List.replicate b.n (.int .i64 0))
  bat : BatAt w b.tx b.n g gc ws
  fz : ∀ x ∈ ws, ∀ k, x.2.ownBlock = some k → w0.heap.size ≤ k
theorem Bt.Core.keeps {b : Bt} {w0 w w' : World} {I c g gc go co : Nat} {ws : List (ByteArray × Value)} {ts : List TypeId} {ms rs : List Nat} (h : b.Core w0 w I c g gc go co ws) (hk : KT ts ms rs w w') (ht : 3 ∉ ts ∧ 24 ∉ ts ∧ 5 ∉ ts ∧ 209 ∉ ts) (hr : ∀ k ∈ rs, k < w0.heap.size) : b.Core w0 w' I c g gc go co ws :=
  ⟨own_keeps h.ids hk ⟨ht.1, by decide⟩, own_keeps h.told hk ⟨ht.2.1, by decide⟩, h.bat.keeps hk ht.2.2 (fun m hm k e q => by
    have q1 := h.fz _ (List.getElem_mem hm) k e
    have q2 := hr k q
    omega), h.fz⟩
def Bt.S1 (b : Bt) (w0 w : World) : Prop := KB [b.x.E, b.x.P, b.x.Q] [64, 113, 160] [] [] w0 w ∧ b.Eng w 0 (b.now + 1) ∧ w.heap[b.x.Q]? = some (.cells b.qb 160 (0, 0)) ∧ ∃ I c td N' wv, b.Grp w 1 (.slice (some ⟨I, 0, none⟩) b.n c) td N' wv ∧ w.ownsRow 0 3 1 (.slice (some ⟨I, 0, none⟩) b.n c) b.n b.ids
def Bt.S2 (b : Bt) (w0 w : World) : Prop := KB [b.x.E, b.x.P, b.x.Q] [64, 113, 160] [] [] w0 w ∧ b.Eng w 0 (b.now + 2) ∧ w.heap[b.x.Q]? = some (.cells b.qb 160 (0, 0)) ∧ ∃ I c g gc go co ws, b.Grp w 2 (.slice (some ⟨I, 0, none⟩) b.n c) (.slice (some ⟨go, 0, none⟩) b.n co) (b.N : Int) (.slice (some ⟨g, 0, none⟩) b.n gc) ∧ b.Core w0 w I c g gc go co ws
set_option maxHeartbeats 1600000 in
theorem bstep0 {b : Bt} (ok : b.Ok) {w : World} {a1 a2 a3 a4 a5 N' : Int} {tk td wv : Value} (eng : b.Eng w 0 b.now) (grp : b.Grp w 0 tk td N' wv) (que : w.heap[b.x.Q]? = some (.cells (quC a1 a2 a3 a4 a5 b.n) 160 (0, 0)))
    (HPop : ∀ w1, w1.heap[b.x.Q]? = some (.cells (quC a1 a2 a3 a4 a5 b.n) 160 (0, 0)) → Calls Tryz.prog 85 #[.pointer (some ⟨b.x.Q, 0, none⟩), .int .i64 3] w1 fun e w' => ∃ g c', e = .returned (.slice (some ⟨g, 0, none⟩) b.n c') ∧ w'.ownsRow 0 3 1 (.slice (some ⟨g, 0, none⟩) b.n c') b.n b.ids ∧ w1.heap.size ≤ g ∧ w'.heap[b.x.Q]? = some (.cells b.qb 160 (0, 0)) ∧ KB [b.x.Q] [160] [] [] w1 w') :
    Calls Tryz.prog 22 #[.pointer (some ⟨b.x.E, 0, none⟩)] w fun e w' => e = .returned (.tuple #[]) ∧ b.S1 w w' := by
  obtain ⟨hv, hE, hH, hb⟩ := eng
  have hn3 : 1 ≤ b.n ∧ b.n ≤ 3 := by have := ok.n1; omega
  have hnw : 0 ≤ b.now ∧ b.now ≤ 1000 := by have := ok.hnow; omega
  unfold Bt.Grp at grp
  refine (estep_plain (ph := 0) (ph' := 1) (bs := [b.x.P, b.x.Q]) (ts := [113, 160]) (ms := []) (rs := []) (Z := fun w' => ∃ g c', w'.heap[b.x.P]? = some (.cells (grpC b.x.L b.x.lg b.x.Q 1 (.slice (some ⟨g, 0, none⟩) b.n c') td N' wv) 113 (0, 0)) ∧ w'.ownsRow 0 3 1 (.slice (some ⟨g, 0, none⟩) b.n c') b.n b.ids ∧ w'.heap[b.x.Q]? = some (.cells b.qb 160 (0, 0))) hE grp hnw (by decide) (by decide) (by decide) (fun w1 e1 k1 => ?_) (fun w2 z => ?_)).mono ?_
  · have q := k1.1.cells que (by decide)
    refine (gstep0_k (qb := b.qb) hn3 (k1.1.cells grp (by decide)) q (HPop w1 q)).mono ?_
    rintro e w' ⟨rfl, g, c', q1, q2, q3, q4, q5⟩
    exact ⟨rfl, ⟨g, c', q1, q2, q4⟩, q5⟩
  · obtain ⟨g, c', q1, _⟩ := z
    exact ⟨_, _, _, _, q1⟩
  · rintro e w' ⟨rfl, ⟨g, c', q1, q2, q4⟩, e', k'⟩
    exact ⟨rfl, k', ⟨hv, e', hH.keeps k'.1 (by decide), hb⟩, q4, g, c', td, N', wv, q1, q2⟩
set_option maxHeartbeats 3200000 in
theorem bstep1 {b : Bt} (ok : b.Ok) {w0 w : World} (pre : b.Pre w0) (s : b.S1 w0 w) :
    Calls Tryz.prog 22 #[.pointer (some ⟨b.x.E, 0, none⟩)] w fun e w' => e = .returned (.tuple #[]) ∧ b.S2 w0 w' := by
  obtain ⟨K, ⟨hv, hE, hH, hb⟩, hQ, I, c, td, N', wv, hP, hI⟩ := s
  have hnw : 0 ≤ b.now + 1 ∧ b.now + 1 ≤ 1000 := by have := ok.hnow; omega
  unfold Bt.Grp at hP
  refine (estep_plain (ph := 1) (ph' := 2) (bs := [b.x.P]) (ts := [113]) (ms := []) (rs := []) (Z := fun w' => ∃ g gc go co ws, w'.heap[b.x.P]? = some (.cells (grpC b.x.L b.x.lg b.x.Q 2 (.slice (some ⟨I, 0, none⟩) b.n c) (.slice (some ⟨go, 0, none⟩) b.n co) (b.N : Int) (.slice (some ⟨g, 0, none⟩) b.n gc)) 113 (0, 0)) ∧ b.Core w0 w' I c g gc go co ws) hE hP hnw (by decide) (by decide) (by decide) (fun w1 e1 k1 => ?_) (fun w2 z => ?_)).mono ?_
  · have K1 : KT [64, 113, 160] [] [] w0 w1 := K.1.then k1.1 (by simp) (by simp) (by simp)
    have I1 := own_keeps hI k1.1 (by decide)
    refine (gstep1_k (n := b.n) (M := (b.N : Int)) (W := fun g gc go co w' => ∃ ws, b.Core w0 w' I c g gc go co ws) (k1.1.cells hP (by decide)) ok.n1.1 (fun w2 b2 => ?_)).mono ?_
    · have K2 := K1.below b2
      have I2 := below_own b2 I1
      have cap := own_cap1 I2 (by have := ok.n1; omega)
      refine (form_any b.tx ok.n1 (K2.cells pre.led (by decide)) (K2.map pre.opn (by simp)) (K2.cells pre.sto (by decide)) (K2.map pre.smap (by simp)) (by have := ok.hN; omega) (fun j hj => row_news1 I2 j _ (b.ids_get hj)) ⟨cap.1, cap.2⟩ ok.hof (fun j hj => ?_) (fun j hj => (ok.miss j hj).find) ok.hdi ok.hk ok.be2).mono ?_
      · have t := pre.txs j hj
        exact ⟨K2.cells t.tx (by decide), K2.map t.map (by simp), t.row.keeps K2 (by decide) (fun _ _ q => by cases q), t.key, t.len⟩
      · rintro e w' ⟨g, gc, go, co, ws, rfl, q1, q2, q3, q4, q5, q6⟩
        refine ⟨g, gc, go, co, by rw [show (b.N : Int) - 1 + 1 = b.N by omega], ⟨ws, below_own q6 I2, q4, ⟨q1, q2, q3, ok.n1, ok.keys, ok.lens, ok.beh⟩, fun x hx k e => Nat.le_trans K2.size (q5 x hx k e)⟩, q6⟩
    · rintro e w' ⟨rfl, w2, g, gc, go, co, ⟨ws, q1⟩, q2, q3, q4⟩
      exact ⟨rfl, ⟨g, gc, go, co, ws, q3, q1.keeps q4.1 (by decide) (by simp)⟩, (KB.of_below q2).trans q4⟩
  · obtain ⟨g, gc, go, co, ws, q1, _⟩ := z
    exact ⟨_, _, _, _, q1⟩
  · rintro e w' ⟨rfl, ⟨g, gc, go, co, ws, q1, q2⟩, e', k'⟩
    have kk : KB [b.x.E, b.x.P, b.x.Q] [64, 113, 160] [] [] w0 w' := K.then k' (by intro y hy _; simp at hy ⊢; rcases hy with h | h <;> simp [h]) (by simp) (by simp) (by simp)
    exact ⟨rfl, kk, ⟨hv, by rw [show b.now + 2 = b.now + 1 + 1 by omega]; exact e', hH.keeps k'.1 (by decide), hb⟩, k'.1.cells hQ (by decide), I, c, g, gc, go, co, ws, q1, q2⟩
end Go.Proofs.YtnidgljkbmceaaaGreatDoor
