/- TopSkew's walks: a batch goes through: logged, synced. -/
import Derived.Test.YtnidgljkbmceaaaGreatDoorG29
import Derived.Test.YtnidgljkbmceaaaGreatDoorG24
import Derived.Test.YtnidgljkbmceaaaGreatDoorG23
import Derived.Test.YtnidgljkbmceaaaGreatDoorPn
import Derived.Test.YtnidgljkbmceaaaGreatDoorG22
set_option linter.unusedVariables false
set_option linter.unusedSimpArgs false
namespace Go.Proofs.YtnidgljkbmceaaaGreatDoor
open Go.RowKit PrintLast Go.Maps Go.MapKept
def Bt.S3 (b : Bt) (ph : Int) (w0 w : World) : Prop := ∃ w2 r1 I c g gc go co ws, KB [b.x.E, b.x.P, b.x.Q] [64, 113, 160] [] [] w0 w2 ∧ b.Core w0 w2 I c g gc go co ws ∧ KB ([b.x.E, b.x.P, b.x.dk, b.x.lg] ++ b.r.toList) [64, 113, 75, 101] [] b.r.toList w2 w ∧ b.Eng w 0 (b.now + ph) ∧ w.heap[b.x.Q]? = some (.cells b.qb 160 (0, 0)) ∧ LogK w b.x.dk b.x.lg r1 (b.m + 1) ∧ (∀ k, r1 = some k → b.r = some k ∨ w2.heap.size ≤ k) ∧ b.Grp w ph (.slice (some ⟨I, 0, none⟩) b.n c) (.slice (some ⟨go, 0, none⟩) b.n co) (b.N : Int) (.slice (some ⟨g, 0, none⟩) b.n gc)
theorem Bt.Pre.rlt {b : Bt} {w : World} (pre : b.Pre w) : ∀ k ∈ b.r.toList, k < w.heap.size := by
  intro k hk
  obtain ⟨cs, h⟩ := pre.log.typed.2.2 k (by simpa using hk)
  exact lt_of_block h
theorem low_mem {b : Bt} (ok : b.Ok) : ∀ y ∈ [b.x.E, b.x.P, b.x.dk, b.x.lg] ++ b.r.toList, b.x.B0 ≤ y := by
  intro y hy
  have lo := ok.lo
  rcases List.mem_append.1 hy with h | h
  · simp at h
    rcases h with rfl | rfl | rfl | rfl
    · exact lo.e
    · exact lo.p
    · exact lo.d
    · exact lo.g
  · exact ok.lowr y (by simpa using h)
set_option maxHeartbeats 3200000 in
theorem bstep2 {b : Bt} (ok : b.Ok) {w0 w : World} (pre : b.Pre w0) (s : b.S2 w0 w) :
    Calls Tryz.prog 22 #[.pointer (some ⟨b.x.E, 0, none⟩)] w fun e w' => e = .returned (.tuple #[]) ∧ b.S3 3 w0 w' := by
  obtain ⟨K, ⟨hv, hE, hH, hb⟩, hQ, I, c, g, gc, go, co, ws, hP, cr⟩ := s
  have hnw : 0 ≤ b.now + 2 ∧ b.now + 2 ≤ 1000 := by have := ok.hnow; omega
  have tb : TabB b.x.B0 w := pre.tab.kb K (by intro y hy; simp at hy; have lo := ok.lo; rcases hy with rfl | rfl | rfl; exact lo.e; exact lo.p; exact lo.q)
  have lg : LogK w b.x.dk b.x.lg b.r b.m := pre.log.keeps K.1 (by decide) (fun _ _ q => by cases q)
  unfold Bt.Grp at hP
  refine (estep_plain (ph := 2) (ph' := 3) (bs := [b.x.P, b.x.dk, b.x.lg] ++ b.r.toList) (ts := [113, 75, 101]) (ms := []) (rs := b.r.toList) (Z := fun w' => ∃ r1, w'.heap[b.x.P]? = some (.cells (grpC b.x.L b.x.lg b.x.Q 3 (.slice (some ⟨I, 0, none⟩) b.n c) (.slice (some ⟨go, 0, none⟩) b.n co) (b.N : Int) (.slice (some ⟨g, 0, none⟩) b.n gc)) 113 (0, 0)) ∧ LogK w' b.x.dk b.x.lg r1 (b.m + 1) ∧ (∀ k, r1 = some k → b.r = some k ∨ w.heap.size ≤ k)) hE hP hnw (by decide) (by decide) (by decide) (fun w1 e1 k1 => ?_) (fun w2 z => ?_)).mono ?_
  · have c1 := cr.keeps k1.1 (by decide) (by simp)
    have t1 := tb.kb k1 (by simpa using ok.lo.e)
    refine (gstep2_k (k1.1.cells hP (by decide)) c1.bat ok.hN.2 (lg.keeps k1.1 (by decide) (fun _ _ q => by cases q)) (by have := ok.hm; omega) t1 ok.lo.p).mono ?_
    rintro e w' ⟨rfl, r1, q1, q2, q3, q4⟩
    exact ⟨rfl, ⟨r1, q1, q2, fun k hk => (q3 k hk).imp id (fun q => Nat.le_trans k1.1.size q)⟩, q4⟩
  · obtain ⟨r1, q1, _⟩ := z
    exact ⟨_, _, _, _, q1⟩
  · rintro e w' ⟨rfl, ⟨r1, q1, q2, q3⟩, e', k'⟩
    exact ⟨rfl, w, r1, I, c, g, gc, go, co, ws, K, cr, k', ⟨hv, by rw [show b.now + 3 = b.now + 2 + 1 by omega]; exact e', hH.keeps k'.1 (by decide), hb⟩, k'.1.cells hQ (by decide), q2, q3, q1⟩
set_option maxHeartbeats 3200000 in
theorem bstep3 {b : Bt} (ok : b.Ok) {w0 w : World} (s : b.S3 3 w0 w) :
    Calls Tryz.prog 22 #[.pointer (some ⟨b.x.E, 0, none⟩)] w fun e w' => e = .returned (.tuple #[]) ∧ b.S3 4 w0 w' := by
  obtain ⟨w2, r1, I, c, g, gc, go, co, ws, K, cr, K2, ⟨hv, hE, hH, hb⟩, hQ, lg, r1o, hP⟩ := s
  have hnw : 0 ≤ b.now + 3 ∧ b.now + 3 ≤ 1000 := by have := ok.hnow; omega
  unfold Bt.Grp at hP
  refine (estep_plain (ph := 3) (ph' := 4) (bs := [b.x.P, b.x.dk, b.x.lg] ++ r1.toList) (ts := [113, 75, 101]) (ms := []) (rs := r1.toList) (Z := fun w' => ∃ r2, w'.heap[b.x.P]? = some (.cells (grpC b.x.L b.x.lg b.x.Q 4 (.slice (some ⟨I, 0, none⟩) b.n c) (.slice (some ⟨go, 0, none⟩) b.n co) (b.N : Int) (.slice (some ⟨g, 0, none⟩) b.n gc)) 113 (0, 0)) ∧ LogK w' b.x.dk b.x.lg r2 (b.m + 1) ∧ (∀ k, r2 = some k → r1 = some k ∨ w.heap.size ≤ k)) hE hP hnw (by decide) (by decide) (by decide) (fun w1 e1 k1 => ?_) (fun w2 z => ?_)).mono ?_
  · refine (gstep3_k (k1.1.cells hP (by decide)) (lg.keeps k1.1 (by decide) (fun _ _ q => by cases q))).mono ?_
    rintro e w' ⟨rfl, r2, q1, q2, q3, q4⟩
    exact ⟨rfl, ⟨r2, q1, q2, fun k hk => (q3 k hk).imp id (fun q => Nat.le_trans k1.1.size q)⟩, q4⟩
  · obtain ⟨r1, q1, _⟩ := z
    exact ⟨_, _, _, _, q1⟩
  · rintro e w' ⟨rfl, ⟨r2, q1, q2, q3⟩, e', k'⟩
    have ro : ∀ y ∈ r1.toList, y < w2.heap.size → y ∈ b.r.toList := by
      intro y hy hl
      rcases r1o y (by simpa using hy) with h | h
      · simpa using h
      · omega
    have kk : KB ([b.x.E, b.x.P, b.x.dk, b.x.lg] ++ b.r.toList) [64, 113, 75, 101] [] b.r.toList w2 w' := by
      refine K2.then k' (fun y hy hl => ?_) (by simp) (by simp) ro
      rcases List.mem_cons.1 hy with rfl | hy
      · simp
      rcases List.mem_append.1 hy with hy | hy
      · simp at hy
        rcases hy with h | h | h <;> simp [h]
      · exact List.mem_append.2 (Or.inr (ro y hy hl))
    refine ⟨rfl, w2, r2, I, c, g, gc, go, co, ws, K, cr, kk, ⟨hv, by rw [show b.now + 4 = b.now + 3 + 1 by omega]; exact e', hH.keeps k'.1 (by decide), hb⟩, k'.1.cells hQ (by decide), q2, fun k hk => ?_, q1⟩
    rcases q3 k hk with h | h
    · exact r1o k h
    · exact Or.inr (Nat.le_trans K2.1.size h)
structure Bt.Hyp (b : Bt) (w0 : World) (TI : Nat → Nat → World → Option Addr → Prop) (co : List Nat) : Prop where
  puts : ∀ lo w1, lo ≤ w1.heap.size → KT [64, 113, 160, 75, 101, 137] [b.x.SM] b.r.toList w0 w1 → Puts b.tx b.n b.tv w1 (TI lo) (b.TF lo)
  htf : ∀ lo w1 w2 v, b.TF lo w1 v → KT [95, 293, 113, 64, 81] [b.x.O] [] w1 w2 → b.TF lo w2 v
  bel : ∀ w5 R' ns' rc', w5.heap[b.x.L]? = some (.cells (ledC b.x.Tb b.x.tc b.x.S b.x.O b.next R' ns' rc') 95 (0, 0)) → w5.heap[b.x.S]? = some (.cells (stoC b.x.SM (b.N : Int)) 137 (0, 0)) → w5.heap[b.x.O]? = some (.map (b.Es b.n) b.cl) → KT [64, 113, 160, 75, 101, 95, 89, 137] [b.x.O, b.x.SM] b.r.toList w0 w5 →
    Calls Tryz.prog 71 #[.pointer (some ⟨b.x.L, 0, none⟩)] w5 fun e w' => (∃ v, e = .returned (.int .i64 v)) ∧ Below w5.heap.size w5 w'
  trim : ∀ w6 ch x, ch.length = b.n → w6.heap[b.x.S]? = some (.cells (stoC b.x.SM (b.N : Int)) 137 (0, 0)) → w6.heap[b.x.SM]? = some (.map (chL b.tx b.q 0 b.ss ch) (b.q + ch.length)) → (∀ m (h : m < ch.length), ChainK w6 ch[m] (b.N : Int) ∧ w0.heap.size ≤ ch[m]) → ch.Nodup → KT [64, 113, 160, 75, 101, 95, 89, 137] [b.x.O, b.x.SM] b.r.toList w0 w6 →
    Calls Tryz.prog 70 #[.pointer (some ⟨b.x.S, 0, none⟩), .int .i64 x] w6 fun e w' => e = .returned (.int .i64 0) ∧ (∀ m (h : m < ch.length), ChainK w' ch[m] (b.N : Int)) ∧ KB (co ++ ch) [293] [] [] w6 w'
  low : ∀ y ∈ co, b.x.B0 ≤ y
structure Bt.Pub (b : Bt) (w0 w : World) (lo R' rc' : Nat) (tv' : Option Addr) (ch : List Nat) : Prop where
  len : ch.length = b.n
  led : w.heap[b.x.L]? = some (.cells (ledC b.x.Tb b.x.tc b.x.S b.x.O b.next R' (b.ns + 1) rc') 95 (0, 0))
  sta : StAt w R' (b.ns + 1) rc' tv'
  tf : b.TF lo w tv'
  lowR : b.x.B0 ≤ R'
  sto : w.heap[b.x.S]? = some (.cells (stoC b.x.SM (b.N : Int)) 137 (0, 0))
  smap : w.heap[b.x.SM]? = some (.map (chL b.tx b.q 0 b.ss ch) (b.q + ch.length))
  chs : ∀ m (h : m < ch.length), ChainK w ch[m] (b.N : Int) ∧ w0.heap.size ≤ ch[m]
  opn : w.heap[b.x.O]? = some (.map (b.Es b.n) b.cl)
theorem Bt.Pub.keeps {b : Bt} {w0 w w' : World} {lo R' rc' : Nat} {tv' : Option Addr} {ch : List Nat} {ts : List TypeId} (h : b.Pub w0 w lo R' rc' tv' ch) (hk : KT ts [] [] w w') (ht : ∀ t ∈ ts, t ∈ [113, 64, 81])
    (htf : ∀ lo w1 w2 v, b.TF lo w1 v → KT [95, 293, 113, 64, 81] [b.x.O] [] w1 w2 → b.TF lo w2 v) : b.Pub w0 w' lo R' rc' tv' ch := by
  have k : KT [113, 64, 81] [] [] w w' := hk.mono ht (by simp) (by simp)
  exact ⟨h.len, k.cells h.led (by decide), h.sta.keeps k (by decide), htf _ _ _ _ h.tf (k.mono (by simp) (by simp) (by simp)), h.lowR, k.cells h.sto (by decide), k.map h.smap (by simp), fun m hm => ⟨(h.chs m hm).1.keeps k (by decide), (h.chs m hm).2⟩, k.map h.opn (by simp)⟩
theorem row_at {w : World} {I n c : Nat} {e : TypeId} {l : List Value} (h : w.ownsRow 0 e 1 (.slice (some ⟨I, 0, none⟩) n c) n l) : ∃ cs, w.heap[I]? = some (.cells cs e (0, 0)) ∧ ∀ j u, j < n → l[j]? = some u → cs[j]? = some u := by
  rcases h.2 with ⟨q, _⟩ | ⟨g, cap, cur, q, _, hh, h1, h2, h3, h4⟩
  · cases q
  · cases q
    refine ⟨cur, hh, fun j u hj hu => ?_⟩
    rw [← h4, List.getElem?_take_of_lt (by omega)] at hu
    simpa using hu
def ToldAt (w : World) (J n : Nat) : Prop := ∃ cs, w.heap[J]? = some (.cells cs 24 (0, 0)) ∧ ∀ j, j < n → cs[j]? = some (.int .i64 0)
theorem ToldAt.keeps {w w' : World} {J n : Nat} {ts : List TypeId} {ms rs : List Nat} (h : ToldAt w J n) (hk : KT ts ms rs w w') (ht : 24 ∉ ts) : ToldAt w' J n := by
  obtain ⟨cs, h1, h2⟩ := h
  exact ⟨cs, hk.cells h1 ⟨ht, by decide⟩, h2⟩
theorem told_at {w : World} {J n c : Nat} (h : w.ownsRow 0 24 1 (.slice (some ⟨J, 0, none⟩) n c) n (List.replicate n (.int .i64 0))) : ToldAt w J n := by
  obtain ⟨cs, h1, h2⟩ := row_at h
  exact ⟨cs, h1, fun j hj => h2 j _ hj (by simp [hj])⟩
theorem ids_at {b : Bt} {w : World} {I c : Nat} (h : w.ownsRow 0 3 1 (.slice (some ⟨I, 0, none⟩) b.n c) b.n b.ids) : IdsAt w I b.n b.tx := by
  obtain ⟨cs, h1, h2⟩ := row_at h
  exact ⟨cs, h1, fun j hj => h2 j _ hj (b.ids_get hj)⟩
def Bt.S5 (b : Bt) (i : Nat) (w0 w : World) : Prop := ∃ lo R' rc' tv' ch r1 I J c c2 A A2 wv, b.Pub w0 w lo R' rc' tv' ch ∧ (∀ k, r1 = some k → k < lo) ∧ LogK w b.x.dk b.x.lg r1 (b.m + 1) ∧ (∀ k, r1 = some k → b.r = some k ∨ w0.heap.size ≤ k) ∧ b.Eng w i (b.now + 5 + (i : Int)) ∧ w.heap[b.x.Q]? = some (.cells b.qb 160 (0, 0)) ∧ b.Grp w (if i = b.n then 0 else 5) (.slice A (b.n - i) c) (.slice A2 (b.n - i) c2) (b.N : Int) wv ∧ (i < b.n → A = some ⟨I, i, none⟩ ∧ A2 = some ⟨J, i, none⟩) ∧ (b.n - i ≤ c ∧ b.n - i ≤ c2 ∧ c ≤ 9223372036854775807 ∧ c2 ≤ 9223372036854775807) ∧ IdsAt w I b.n b.tx ∧ ToldAt w J b.n ∧ KT [64, 113, 160, 75, 101, 95, 89, 137, 293, 81] [b.x.O, b.x.SM] b.r.toList w0 w ∧ Below b.x.B0 w0 w
structure Bt.Pts (b : Bt) (cl en : Nat → Nat) : Prop where
  at_ : ∀ j, j < b.n → cl j < 8 ∧ (cliS (b.cs 0).1 (b.cs 0).2 (cl j)).entry = (en j : Int) ∧ en j < b.hn
  idx : ∀ j, j < b.n → ∀ w1 K hv now, w1.heap[b.x.E]? = some (.cells (engS b.x.L b.x.P (b.cs 0).1 (b.cs 0).2 hv now) 64 (0, 0)) → w1.heap[K]? = some (.cells #[.int .i64 (b.tx j).id] 3 (0, 0)) → Calls Tryz.prog 92 #[.slice (some ⟨b.x.E, 2, none⟩) 8 8, .func (.func 93) #[] #[.pointer (some ⟨K, 0, none⟩)]] w1 fun e w' => e = .returned (.int .i64 (cl j : Int)) ∧ Below w1.heap.size w1 w'
set_option maxHeartbeats 6400000 in
theorem bstep4 {b : Bt} (ok : b.Ok) {w0 w : World} {TI : Nat → Nat → World → Option Addr → Prop} {co' : List Nat} {cl en : Nat → Nat} (pre : b.Pre w0) (hy : b.Hyp w0 TI co') (pt : b.Pts cl en) (s : b.S3 4 w0 w) :
    Calls Tryz.prog 22 #[.pointer (some ⟨b.x.E, 0, none⟩)] w fun e w' => e = .returned (.tuple #[]) ∧ b.S5 0 w0 w' := by
  obtain ⟨w2, r1, I, c, g, gc, go, co, ws, K, cr, K2, ⟨hv, hE, hH, hb⟩, hQ, lg, r1o, hP⟩ := s
  have lo := ok.lo
  have hn1 := ok.n1
  have hnw : 0 ≤ b.now + 4 ∧ b.now + 4 ≤ 1000 := by have := ok.hnow; omega
  have cw := cr.keeps K2.1 (by decide) pre.rlt
  have K02 : KT [64, 113, 160, 75, 101] [] b.r.toList w0 w := (K.1.mono (ts' := [64, 113, 160, 75, 101]) (ms' := []) (rs' := b.r.toList) (by simp) (by simp) (by simp)).then K2.1 (by simp) (by simp) (fun _ q _ => q)
  have hK : ∀ y ∈ [b.x.E, b.x.P, b.x.Q], b.x.B0 ≤ y := by intro y hy; simp at hy; rcases hy with rfl | rfl | rfl; exact lo.e; exact lo.p; exact lo.q
  have tb : TabB b.x.B0 w := (pre.tab.kb K hK).kb K2 (low_mem ok)
  have bl : Below b.x.B0 w0 w := (K.2 b.x.B0 pre.tab.1 hK).trans (K2.2 b.x.B0 (Nat.le_trans pre.tab.1 K.1.size) (low_mem ok))
  have zw : w0.heap.size ≤ w.heap.size := K02.size
  unfold Bt.Grp at hP
  refine (estep_points (n := b.n) (l := b.ids) (I := I) (J := go) (c := c) (c2 := co) (bs := ([b.x.L, b.R, b.x.S, b.x.SM, b.x.O] ++ co') ++ [b.x.P]) (ts := [95, 89, 137, 293, 113]) (ms := [b.x.O, b.x.SM]) (rs := [])
    (Z := fun w' => (∃ R' rc' tv' ch, b.Pub w0 w' w.heap.size R' rc' tv' ch) ∧ w'.heap[b.x.P]? = some (.cells (grpC b.x.L b.x.lg b.x.Q 5 (.slice (some ⟨I, 0, none⟩) b.n c) (.slice (some ⟨go, 0, none⟩) b.n co) (b.N : Int) (.slice (some ⟨g, 0, none⟩) b.n gc)) 113 (0, 0)) ∧ w'.ownsRow 0 3 1 (.slice (some ⟨I, 0, none⟩) b.n c) b.n b.ids ∧ w'.ownsRow 0 24 1 (.slice (some ⟨go, 0, none⟩) b.n co) b.n (List.replicate b.n (.int .i64 0)))
    (Z2 := b.S5 0 w0) (bs2 := (b.x.E :: (([b.x.L, b.R, b.x.S, b.x.SM, b.x.O] ++ co') ++ [b.x.P])) ++ hv.ownBlock.toList) (ts2 := [64, 95, 89, 137, 293, 113, 81]) (ms2 := [b.x.O, b.x.SM]) (rs2 := [])
    ⟨hn1.1, by omega⟩ b.ids_one hE hP hnw (by decide) (fun w1 e1 k1 => ?_) (fun w2 z => z.2) (fun wa w3 I' c' J' c2' z bz e3 k3 oI oJ => ?_)).mono ?_
  · have K01 : KT [64, 113, 160, 75, 101] [] b.r.toList w0 w1 := K02.then k1.1 (by simp) (by simp) (by simp)
    have t1 := tb.kb k1 (by simpa using lo.e)
    have c1 := cw.keeps k1.1 (by decide) (by simp)
    refine (gstep4_k (bs := [b.x.L, b.R, b.x.S, b.x.SM, b.x.O] ++ co') (ts := [95, 89, 137, 293]) (ms := [b.x.O, b.x.SM]) (rs := []) (PP := fun w' => ∃ R' rc' tv' ch, b.Pub w0 w' w.heap.size R' rc' tv' ch) (k1.1.cells hP (by decide)) (fun wz bz => ?_) (by decide)).mono ?_
    · have KZ := K01.below bz
      have cz := c1.keeps (KT.of_below (ts := []) (ms := []) (rs := []) bz) (by decide) (by simp)
      have cap := own_cap1 cz.ids (by omega)
      have zz := KZ.size
      refine (publish_any (n := b.n) (co := co') (TI := TI w.heap.size) (TF := b.TF w.heap.size) (Es := b.Es) (KZ.cells pre.led (by decide)) (pre.sta.keeps KZ (by decide)) ok.h4 cz.bat (KZ.cells pre.sto (by decide)) (KZ.map pre.smap (by simp)) ok.hN ok.miss ok.hk (KZ.map pre.opn (by simp)) lo.ap ok.hdel (ids_at cz.ids) ⟨cap.1, cap.2⟩ (t1.below bz) ⟨lo.l, ok.lowR, lo.s, lo.m⟩
        (fun w5 k5 => hy.puts _ w5 (Nat.le_trans (Nat.le_trans k1.1.size bz.size) k5.size) (KT.then (KZ.mono (by simp) (by simp) (fun _ q => q)) k5 (by simp) (by simp) (by simp))) (fun w5 w6 v h k => hy.htf _ w5 w6 v h (k.mono (by simp) (by simp) (by simp)))
        (fun w5 R' ns' rc' h1 h2 h3 k => hy.bel w5 R' ns' rc' h1 h2 h3 (KT.then (KZ.mono (by simp) (by simp) (fun _ q => q)) k (by simp) (by simp) (by simp)))
        (fun w6 ch x h1 h2 h3 h4 h5 k => hy.trim w6 ch x h1 h2 h3 (fun m hm => ⟨(h4 m hm).1, Nat.le_trans zz (h4 m hm).2⟩) h5 (KT.then (KZ.mono (by simp) (by simp) (fun _ q => q)) k (by simp) (by simp) (by simp)))).mono ?_
      rintro e w' ⟨rfl, R', rc', tv', ch, q1, q2, q3, q4, q5, q6, q7, q8, q9, q10⟩
      exact ⟨rfl, ⟨R', rc', tv', ch, q1, q2, q3, q4, by have := pre.tab.1; omega, q6, q7, fun m hm => ⟨(q8 m hm).1, Nat.le_trans zz (q8 m hm).2⟩, q9⟩, q10⟩
    · rintro e w' ⟨rfl, wp, ⟨R', rc', tv', ch, p⟩, k2, k3, h5⟩
      have kk : KB (([b.x.L, b.R, b.x.S, b.x.SM, b.x.O] ++ co') ++ [b.x.P]) [95, 89, 137, 293, 113] [b.x.O, b.x.SM] [] w1 w' := (k2.mono (by intro y hy; exact List.mem_append.2 (Or.inl hy)) (by simp) (by simp) (by simp)).then k3 (by intro y hy _; exact List.mem_append.2 (Or.inr hy)) (by simp) (by simp) (by simp)
      exact ⟨rfl, ⟨⟨R', rc', tv', ch, p.keeps k3.1 (by simp) hy.htf⟩, h5, own_keeps c1.ids kk.1 (by decide), own_keeps c1.told kk.1 (by decide)⟩, kk⟩
  · obtain ⟨⟨R', rc', tv', ch, p⟩, h5, oi, oj⟩ := z
    have capI := own_cap1 oI (by omega)
    have capJ := own_cap1 oJ (by omega)
    have capI0 := own_cap1 oi (by omega)
    have capJ0 := own_cap1 oj (by omega)
    obtain ⟨csI, i1, i2⟩ := row_at oI
    have hH3 := hH.keeps k3.1 (by decide)
    refine (points_k (ids := fun j => (b.tx j).id) (cl := cl) (en := en) hn1 e3 hH3 (by have := ok.hh; omega) ⟨csI, i1, fun j hj => i2 j _ hj (b.ids_get hj)⟩ (told_at oJ) ⟨capI.1, capI.2, capJ.1, capJ.2⟩ pt.at_ (fun j hj w4 K4 h1 h2 => pt.idx j hj w4 K4 _ _ h1 h2)).mono ?_
    rintro e w' ⟨rfl, hH4, kp⟩
    have ka : KT [81] [] [] wa w' := (KT.of_below bz).then kp.1 (by simp) (by simp) (by simp)
    have kw : KT [64, 95, 89, 137, 293, 113, 81] [b.x.O, b.x.SM] [] w w' := (k3.1.mono (by simp) (by simp) (by simp)).then kp.1 (by simp) (by simp) (by simp)
    have lowB : ∀ y ∈ b.x.E :: (([b.x.L, b.R, b.x.S, b.x.SM, b.x.O] ++ co') ++ [b.x.P]), b.x.B0 ≤ y := by
      intro y hy'
      rcases List.mem_cons.1 hy' with rfl | hy'
      · exact lo.e
      rcases List.mem_append.1 hy' with hy' | hy'
      · rcases List.mem_append.1 hy' with hy' | hy'
        · simp at hy'
          rcases hy' with rfl | rfl | rfl | rfl | rfl
          · exact lo.l
          · exact ok.lowR
          · exact lo.s
          · exact lo.m
          · exact lo.o
        · exact hy.low y hy'
      · simp at hy'
        rw [hy']
        exact lo.p
    have lowH : ∀ y ∈ hv.ownBlock.toList, b.x.B0 ≤ y := fun y hy' => hb y (by simpa using hy')
    have b1 : Below b.x.B0 w w' := (k3.2 b.x.B0 (Nat.le_trans pre.tab.1 zw) lowB).trans (kp.2 b.x.B0 (Nat.le_trans (Nat.le_trans pre.tab.1 zw) k3.1.size) lowH)
    refine ⟨rfl, ⟨w.heap.size, R', rc', tv', ch, r1, I, go, c, co, some ⟨I, 0, none⟩, some ⟨go, 0, none⟩, .slice (some ⟨g, 0, none⟩) b.n gc, p.keeps ka (by simp) hy.htf, fun k hk => (by obtain ⟨cs, q⟩ := lg.typed.2.2 k hk; exact lt_of_block q), lg.keeps kw (by decide) (fun _ _ q => by cases q), fun k hk => (r1o k hk).imp id (fun q => Nat.le_trans K.1.size q), ⟨hv, ?_, hH4, hb⟩, kw.cells hQ (by decide), ?_, fun _ => ⟨rfl, rfl⟩, ⟨capI0.1, capJ0.1, capI0.2, capJ0.2⟩, (ids_at oi).keeps ka (by decide), (told_at oj).keeps ka (by decide), ?_, bl.trans b1⟩, ?_⟩
    · rw [show b.now + 5 + ((0 : Nat) : Int) = b.now + 4 + 1 by omega]
      exact kp.1.cells e3 (by decide)
    · rw [if_neg (by omega)]
      exact ka.cells h5 (by decide)
    · exact KT.then (K02.mono (by simp) (by simp) (fun _ q => q)) kw (by simp) (by simp) (by simp)
    · refine KB.then (k3.mono (fun y hy' => List.mem_append.2 (Or.inl hy')) (by simp) (by simp) (by simp)) kp (fun y hy' _ => List.mem_append.2 (Or.inr hy')) (by simp) (by simp) (by simp)
  · rintro e w' ⟨rfl, q, -⟩
    exact ⟨rfl, q⟩
structure Bt.Wk (b : Bt) : Prop where
  wake : ∀ i, i < b.n → ∀ w hv now, w.heap[b.x.E]? = some (.cells (engS b.x.L b.x.P (b.cs i).1 (b.cs i).2 hv now) 64 (0, 0)) → HistK w hv b.hn → Calls Tryz.prog 46 #[.pointer (some ⟨b.x.E, 0, none⟩), .agg #[.int .i64 (b.tx i).id, .int .i64 0]] w fun e w' => e = .returned (.tuple #[]) ∧ w'.heap[b.x.E]? = some (.cells (engS b.x.L b.x.P (b.cs (i + 1)).1 (b.cs (i + 1)).2 hv now) 64 (0, 0)) ∧ HistK w' hv b.hn ∧ KB (b.x.E :: hv.ownBlock.toList) [64, 81] [] [] w w'
  wait : ∀ i, i < b.n → (b.cs i).1.waits = true ∨ ((b.cs i).1.waits = false ∧ (b.cs i).2.waits = true)
  done : (b.cs b.n).1.waits = false ∧ (b.cs b.n).2.waits = false
set_option maxHeartbeats 6400000 in
theorem bstep5 {b : Bt} (ok : b.Ok) {w0 w : World} {TI : Nat → Nat → World → Option Addr → Prop} {co' : List Nat} {i : Nat} (hi : i < b.n) (pre : b.Pre w0) (hy : b.Hyp w0 TI co') (wk : b.Wk) (s : b.S5 i w0 w) :
    Calls Tryz.prog 22 #[.pointer (some ⟨b.x.E, 0, none⟩)] w fun e w' => e = .returned (.tuple #[]) ∧ b.S5 (i + 1) w0 w' := by
  obtain ⟨lo', R', rc', tv', ch, r1, I, J, c, c2, A, A2, wv, p, rlo, lg, r1o, ⟨hv, hE, hH, hb⟩, hQ, hP, hA, cap, ids, told, kt, bl⟩ := s
  obtain ⟨rfl, rfl⟩ := hA hi
  have lo := ok.lo
  have hn1 := ok.n1
  obtain ⟨n', hn'⟩ : ∃ n', b.n - i = n' + 1 := ⟨b.n - i - 1, by omega⟩
  unfold Bt.Grp at hP
  rw [if_neg (by omega), hn'] at hP
  have hnw : 0 ≤ b.now + 5 + (i : Int) ∧ b.now + 5 + (i : Int) ≤ 1000 := by have := ok.hnow; omega
  have zw : w0.heap.size ≤ w.heap.size := kt.size
  obtain ⟨csJ, j1, j2⟩ := told
  refine (estep_wake (id := (b.tx i).id) (bs := [b.x.P]) (ts := [113]) (ms := []) (rs := []) (Z := fun g w' => w'.heap[g]? = some (.cells #[.int .i64 (b.tx i).id, .int .i64 0] 122 (0, 0)) ∧ ∃ A B : Option Addr, w'.heap[b.x.P]? = some (.cells (grpC b.x.L b.x.lg b.x.Q (if n' = 0 then 0 else 5) (.slice A n' (c - 1)) (.slice B n' (c2 - 1)) (b.N : Int) wv) 113 (0, 0)) ∧ (0 < n' → A = some ⟨I, i + 1, none⟩ ∧ B = some ⟨J, i + 1, none⟩))
    (Z2 := b.S5 (i + 1) w0) (bs2 := [b.x.E, b.x.P] ++ (b.x.E :: hv.ownBlock.toList)) (ts2 := [64, 113, 81]) (ms2 := []) (rs2 := []) hE hP hnw (by decide) (fun w1 e1 k1 => ?_) (fun g w2 z => z.1) (fun g w2 w3 z bz e3 k3 => ?_)).mono ?_
  · refine (gstep5_k (n := n') (id := (b.tx i).id) (by omega) (k1.1.cells hP (by decide)) ((ids.keeps k1.1 (by decide)).get hi) (cell_at (k1.1.cells j1 (by decide)) (j2 i hi)) _ rfl).mono ?_
    rintro e w' ⟨g, rfl, A, B, q1, q2, q3, q4⟩
    exact ⟨g, rfl, ⟨q1, A, B, q2, q3⟩, q4⟩
  · obtain ⟨-, A, B, q2, q3⟩ := z
    refine (wk.wake i hi w3 hv _ e3 (hH.keeps k3.1 (by decide))).mono ?_
    rintro e w' ⟨rfl, e4, h4, kp⟩
    have ka : KT [64, 81] [] [] w2 w' := (KT.of_below bz).then kp.1 (by simp) (by simp) (by simp)
    have kw : KT [64, 113, 81] [] [] w w' := (k3.1.mono (by simp) (by simp) (by simp)).then kp.1 (by simp) (by simp) (by simp)
    have b1 : Below b.x.B0 w w' := (k3.2 b.x.B0 (Nat.le_trans pre.tab.1 zw) (by intro y hy'; simp at hy'; rcases hy' with rfl | rfl; exact lo.e; exact lo.p)).trans (kp.2 b.x.B0 (Nat.le_trans (Nat.le_trans pre.tab.1 zw) k3.1.size) (by
      intro y hy'
      rcases List.mem_cons.1 hy' with rfl | hy'
      · exact lo.e
      · exact hb y (by simpa using hy')))
    refine ⟨rfl, ⟨lo', R', rc', tv', ch, r1, I, J, c - 1, c2 - 1, A, B, wv, p.keeps kw (by simp) hy.htf, rlo, lg.keeps kw (by decide) (fun _ _ q => by cases q), r1o, ⟨hv, ?_, h4, hb⟩, kw.cells hQ (by decide), ?_, fun h => q3 (by omega), by omega, ids.keeps kw (by decide), ⟨csJ, kw.cells j1 (by decide), j2⟩, kt.then kw (by simp) (by simp) (by simp), bl.trans b1⟩, ?_⟩
    · rw [show b.now + 5 + ((i + 1 : Nat) : Int) = b.now + 5 + (i : Int) + 1 by omega]
      exact e4
    · show w'.heap[b.x.P]? = _
      rw [show b.n - (i + 1) = n' by omega, ka.cells q2 (by decide)]
      by_cases h0 : n' = 0
      · rw [if_pos h0, if_pos (by omega)]
      · rw [if_neg h0, if_neg (by omega)]
    · exact KB.then (k3.mono (by intro y hy'; exact List.mem_append.2 (Or.inl hy')) (by simp) (by simp) (by simp)) kp (fun y hy' _ => List.mem_append.2 (Or.inr hy')) (by simp) (by simp) (by simp)
  · rintro e w' ⟨rfl, q, -⟩
    exact ⟨rfl, q⟩
def Bt.At (b : Bt) (w0 : World) : Nat → World → Prop
  | 0, w => w = w0
  | 1, w => b.S1 w0 w
  | 2, w => b.S2 w0 w
  | 3, w => b.S3 3 w0 w
  | 4, w => b.S3 4 w0 w
  | i + 5, w => b.S5 i w0 w
theorem Bt.At.eng {b : Bt} (ok : b.Ok) {w0 w : World} {j : Nat} (e0 : b.Eng w0 0 b.now) (hj : j < b.n + 5) (h : b.At w0 j w) : ∃ i now', i < b.n ∧ b.Eng w i now' := by
  have hn := ok.n1
  match j, hj, h with
  | 0, _, h => rw [show w = w0 from h]; exact ⟨0, _, by omega, e0⟩
  | 1, _, h => exact ⟨0, _, by omega, h.2.1⟩
  | 2, _, h => exact ⟨0, _, by omega, h.2.1⟩
  | 3, _, h =>
    obtain ⟨w2, r1, I, c, g, gc, go, co, ws, K, cr, K2, e, _⟩ := h
    exact ⟨0, _, by omega, e⟩
  | 4, _, h =>
    obtain ⟨w2, r1, I, c, g, gc, go, co, ws, K, cr, K2, e, _⟩ := h
    exact ⟨0, _, by omega, e⟩
  | i + 5, hj, h =>
    obtain ⟨lo', R', rc', tv', ch, r1, I, J, c, c2, A, A2, wv, p, rlo, lg, r1o, e, _⟩ := h
    exact ⟨i, _, by omega, e⟩
set_option maxHeartbeats 3200000 in
theorem bsettle {b : Bt} (ok : b.Ok) {w0 : World} {TI : Nat → Nat → World → Option Addr → Prop} {co' : List Nat} {cl en : Nat → Nat} {a1 a2 a3 a4 a5 N' M : Int} {tk td wv : Value} (hM : 60 ≤ M ∧ M ≤ 1000) (pre : b.Pre w0) (hy : b.Hyp w0 TI co') (pt : b.Pts cl en) (wk : b.Wk) (eng : b.Eng w0 0 b.now) (grp : b.Grp w0 0 tk td N' wv) (que : w0.heap[b.x.Q]? = some (.cells (quC a1 a2 a3 a4 a5 b.n) 160 (0, 0)))
    (HPop : ∀ w1, w1.heap[b.x.Q]? = some (.cells (quC a1 a2 a3 a4 a5 b.n) 160 (0, 0)) → Calls Tryz.prog 85 #[.pointer (some ⟨b.x.Q, 0, none⟩), .int .i64 3] w1 fun e w' => ∃ g c', e = .returned (.slice (some ⟨g, 0, none⟩) b.n c') ∧ w'.ownsRow 0 3 1 (.slice (some ⟨g, 0, none⟩) b.n c') b.n b.ids ∧ w1.heap.size ≤ g ∧ w'.heap[b.x.Q]? = some (.cells b.qb 160 (0, 0)) ∧ KB [b.x.Q] [160] [] [] w1 w') :
    Calls Tryz.prog 9 #[.pointer (some ⟨b.x.E, 0, none⟩), .int .i64 M] w0 fun e w' => (∃ v, e = .returned (.int .i64 v)) ∧ b.S5 b.n w0 w' := by
  have hn := ok.n1
  refine (settle_k (E := b.x.E) (k := b.n + 5) (b.At w0) (by omega) hM rfl (fun j w1 hj h => ?_) (fun j w1 hj h => ?_) (fun w1 h => ?_)).mono ?_
  · obtain ⟨i, now', hi, hv, h1, -, -⟩ := Bt.At.eng ok eng hj h
    rcases wk.wait i hi with q | ⟨q1, q2⟩
    · exact quiet_f0 h1 q
    · exact quiet_f1 h1 q1 q2
  · match j, hj, h with
    | 0, _, h => rw [show w1 = w0 from h]; exact bstep0 ok eng grp que HPop
    | 1, _, h => exact bstep1 ok pre h
    | 2, _, h => exact bstep2 ok pre h
    | 3, _, h => exact bstep3 ok h
    | 4, _, h => exact bstep4 ok pre hy pt h
    | i + 5, hj, h => exact bstep5 ok (by omega) pre hy wk h
  · obtain ⟨lo', R', rc', tv', ch, r1, I, J, c, c2, A, A2, wv, p, rlo, lg, r1o, ⟨hv, hE, -, -⟩, hQ, hP, _⟩ := (show b.S5 b.n w0 w1 from h)
    unfold Bt.Grp at hP
    rw [if_pos rfl] at hP
    exact quiet_t hE hP wk.done.1 wk.done.2
  · rintro e w' ⟨h1, h2⟩
    exact ⟨h1, h2⟩
set_option maxRecDepth 100000 in
set_option maxHeartbeats 3200000 in
theorem eans_0 {w : World} {E L P : Nat} {a b : Cli} {hv : Value} {now : Int} (hE : w.heap[E]? = some (.cells (engS L P a b hv now) 64 (0, 0))) (hr : a.replied = true) (he : a.e = 0) :
    Calls Tryz.prog 10 #[.pointer (some ⟨E, 0, none⟩), .int .i64 0] w fun e w' => e = .returned (.tuple #[okV, .bool true]) ∧ w'.heap[E]? = some (.cells (engS L P ({ a with replied := false }) (b) hv now) 64 (0, 0)) ∧ KB [E] [64] [] [] w w' := by
  obtain ⟨S, hS⟩ : ∃ S, S = w.heap.size := ⟨_, rfl⟩
  obtain ⟨w1, hw1⟩ : ∃ w1, w1 = w.alloc (.cells #[.int .i64 0, .bool false, .slice none 0 0, .slice none 0 0, .slice none 0 0] 38) := ⟨_, rfl⟩
  have b1 : Below w.heap.size w w1 := by rw [hw1]; exact below_alloc (Below.refl _ _) _
  have g1 : w1.heap[S]? = some (.cells #[.int .i64 0, .bool false, .slice none 0 0, .slice none 0 0, .slice none 0 0] 38 (0, 0)) := by rw [hw1, hS]; exact heap_alloc_new _ _
  have e1 := below_heap b1 hE
  have HO0 := of_any (w := w1) (E := E) (c := 0) (by omega)
  rw [show ((0 : Nat) : Int) = 0 from rfl, show 2 + 0 * 9 = 2 from rfl] at HO0
  have HO := hid HO0
  have c8 := cell_at e1 (i := 10) (v := .bool true) (by rw [← hr]; rfl)
  have f8 := free_at e1 10
  obtain ⟨w2, hw2⟩ : ∃ y, y = w1.setCell ⟨E, 10, none⟩ (.bool false) := ⟨_, rfl⟩
  have e2 : w2.heap[E]? = some (.cells (engS L P ({ a with replied := false }) (b) hv now) 64 (0, 0)) := by rw [hw2]; exact (heap_set e1).trans rfl
  have k2 : KB [E] [64] [] [] w w2 := by rw [hw2]; exact (KB.of_below b1).set (p := ⟨E, 10, none⟩) hE (by simp) (by simp) _
  have kd : KT [64] [] [] w1 w2 := by rw [hw2]; exact (KT.refl _ _ _ _).set (p := ⟨E, 10, none⟩) e1 (by simp) _
  have g2 := kd.cells g1 (by decide)
  have r0 := cell_at e2 (i := 5) (v := .int .i64 0) (by rw [← he]; rfl)
  have r1 := cell_at e2 (i := 5 + 1) (v := .bool false) rfl
  have r2 := cell_at e2 (i := 5 + 2) (v := .slice none 0 0) rfl
  have r3 := cell_at e2 (i := 5 + 3) (v := .slice none 0 0) rfl
  have r4 := cell_at e2 (i := 5 + 4) (v := .slice none 0 0) rfl
  have q0 := cell_at g2 (i := 0) rfl
  have q1 := cell_at g2 (i := 1) rfl
  have q2 := cell_at g2 (i := 2) rfl
  have q3 := cell_at g2 (i := 3) rfl
  have q4 := cell_at g2 (i := 4) rfl
  have p0 := free_at g2 0
  have p1 := free_at g2 1
  have p2 := free_at g2 2
  have p3 := free_at g2 3
  have p4 := free_at g2 4
  have G2 := hid (And.intro g2 (And.intro e2 (And.intro k2 hS)))
  have W1 := hid hw1
  have W2 := hid hw2
  have S1 := hid hS
  clear hE hr he hS hw1 b1 g1 e1 HO0 hw2 e2 k2 kd g2
  go_enter Tryz.func10, Tryz.ntmps10
  go_upto_region 1 with fail
  rw [← S1.out, ← W1.out]
  clear W1
  go_wp2_with fail
  refine HO.out.mono ?_
  rintro e w1' ⟨rfl, rfl⟩
  clear HO
  go_upto_region 5 with fail
  rw [← W2.out]
  clear W2 c8 f8
  go_wp2
  obtain ⟨X4, hX4⟩ : ∃ y, y = set5 w2 S 0 (.int .i64 0) (.bool false) (.slice none 0 0) (.slice none 0 0) (.slice none 0 0) := ⟨_, rfl⟩
  have g7 : X4.heap[S]? = some (.cells #[.int .i64 0, .bool false, .slice none 0 0, .slice none 0 0, .slice none 0 0] 38 (0, 0)) := by rw [hX4]; exact set5_heap G2.out.1
  have kS : KT [38] [] [] w2 X4 := by rw [hX4]; exact (KT.refl _ _ _ _).set5 G2.out.1 (by simp) _ _ _ _ _
  have FIN := hid (show X4.heap[E]? = some (.cells (engS L P ({ a with replied := false }) (b) hv now) 64 (0, 0)) ∧ KB [E] [64] [] [] w X4 from ⟨kS.cells G2.out.2.1 (by decide), by rw [hX4]; exact G2.out.2.2.1.set5New (by rw [← G2.out.2.2.2]; exact Nat.le_refl _) _ _ _ _ _⟩)
  have G7 := hid g7
  have HX4 := hid (show (((((w2.setCell ⟨S, 0, none⟩ (.int .i64 0)).setCell ⟨S, 1, none⟩ (.bool false)).setCell ⟨S, 2, none⟩ (.slice none 0 0)).setCell ⟨S, 3, none⟩ (.slice none 0 0)).setCell ⟨S, 4, none⟩ (.slice none 0 0)) = X4 from hX4.symm)
  clear hX4 g7 kS q0 q1 q2 q3 q4 p0 p1 p2 p3 p4 r0 r1 r2 r3 r4
  rw [HX4.out]
  try simp only [Exit.inBlock, Exit.then]
  refine bodyPost_ret (ret_cell_tmp rfl rfl G7.out Tryz.underlying38 rfl infReply) rfl ?_
  exact ⟨rfl, FIN.out⟩
set_option maxRecDepth 100000 in
set_option maxHeartbeats 3200000 in
theorem eans_1 {w : World} {E L P : Nat} {a b : Cli} {hv : Value} {now : Int} (hE : w.heap[E]? = some (.cells (engS L P a b hv now) 64 (0, 0))) (hr : b.replied = true) (he : b.e = 0) :
    Calls Tryz.prog 10 #[.pointer (some ⟨E, 0, none⟩), .int .i64 1] w fun e w' => e = .returned (.tuple #[okV, .bool true]) ∧ w'.heap[E]? = some (.cells (engS L P (a) ({ b with replied := false }) hv now) 64 (0, 0)) ∧ KB [E] [64] [] [] w w' := by
  obtain ⟨S, hS⟩ : ∃ S, S = w.heap.size := ⟨_, rfl⟩
  obtain ⟨w1, hw1⟩ : ∃ w1, w1 = w.alloc (.cells #[.int .i64 0, .bool false, .slice none 0 0, .slice none 0 0, .slice none 0 0] 38) := ⟨_, rfl⟩
  have b1 : Below w.heap.size w w1 := by rw [hw1]; exact below_alloc (Below.refl _ _) _
  have g1 : w1.heap[S]? = some (.cells #[.int .i64 0, .bool false, .slice none 0 0, .slice none 0 0, .slice none 0 0] 38 (0, 0)) := by rw [hw1, hS]; exact heap_alloc_new _ _
  have e1 := below_heap b1 hE
  have HO0 := of_any (w := w1) (E := E) (c := 1) (by omega)
  rw [show ((1 : Nat) : Int) = 1 from rfl, show 2 + 1 * 9 = 11 from rfl] at HO0
  have HO := hid HO0
  have c8 := cell_at e1 (i := 19) (v := .bool true) (by rw [← hr]; rfl)
  have f8 := free_at e1 19
  obtain ⟨w2, hw2⟩ : ∃ y, y = w1.setCell ⟨E, 19, none⟩ (.bool false) := ⟨_, rfl⟩
  have e2 : w2.heap[E]? = some (.cells (engS L P (a) ({ b with replied := false }) hv now) 64 (0, 0)) := by rw [hw2]; exact (heap_set e1).trans rfl
  have k2 : KB [E] [64] [] [] w w2 := by rw [hw2]; exact (KB.of_below b1).set (p := ⟨E, 19, none⟩) hE (by simp) (by simp) _
  have kd : KT [64] [] [] w1 w2 := by rw [hw2]; exact (KT.refl _ _ _ _).set (p := ⟨E, 19, none⟩) e1 (by simp) _
  have g2 := kd.cells g1 (by decide)
  have r0 := cell_at e2 (i := 14) (v := .int .i64 0) (by rw [← he]; rfl)
  have r1 := cell_at e2 (i := 14 + 1) (v := .bool false) rfl
  have r2 := cell_at e2 (i := 14 + 2) (v := .slice none 0 0) rfl
  have r3 := cell_at e2 (i := 14 + 3) (v := .slice none 0 0) rfl
  have r4 := cell_at e2 (i := 14 + 4) (v := .slice none 0 0) rfl
  have q0 := cell_at g2 (i := 0) rfl
  have q1 := cell_at g2 (i := 1) rfl
  have q2 := cell_at g2 (i := 2) rfl
  have q3 := cell_at g2 (i := 3) rfl
  have q4 := cell_at g2 (i := 4) rfl
  have p0 := free_at g2 0
  have p1 := free_at g2 1
  have p2 := free_at g2 2
  have p3 := free_at g2 3
  have p4 := free_at g2 4
  have G2 := hid (And.intro g2 (And.intro e2 (And.intro k2 hS)))
  have W1 := hid hw1
  have W2 := hid hw2
  have S1 := hid hS
  clear hE hr he hS hw1 b1 g1 e1 HO0 hw2 e2 k2 kd g2
  go_enter Tryz.func10, Tryz.ntmps10
  go_upto_region 1 with fail
  rw [← S1.out, ← W1.out]
  clear W1
  go_wp2_with fail
  refine HO.out.mono ?_
  rintro e w1' ⟨rfl, rfl⟩
  clear HO
  go_upto_region 5 with fail
  rw [← W2.out]
  clear W2 c8 f8
  go_wp2
  obtain ⟨X4, hX4⟩ : ∃ y, y = set5 w2 S 0 (.int .i64 0) (.bool false) (.slice none 0 0) (.slice none 0 0) (.slice none 0 0) := ⟨_, rfl⟩
  have g7 : X4.heap[S]? = some (.cells #[.int .i64 0, .bool false, .slice none 0 0, .slice none 0 0, .slice none 0 0] 38 (0, 0)) := by rw [hX4]; exact set5_heap G2.out.1
  have kS : KT [38] [] [] w2 X4 := by rw [hX4]; exact (KT.refl _ _ _ _).set5 G2.out.1 (by simp) _ _ _ _ _
  have FIN := hid (show X4.heap[E]? = some (.cells (engS L P (a) ({ b with replied := false }) hv now) 64 (0, 0)) ∧ KB [E] [64] [] [] w X4 from ⟨kS.cells G2.out.2.1 (by decide), by rw [hX4]; exact G2.out.2.2.1.set5New (by rw [← G2.out.2.2.2]; exact Nat.le_refl _) _ _ _ _ _⟩)
  have G7 := hid g7
  have HX4 := hid (show (((((w2.setCell ⟨S, 0, none⟩ (.int .i64 0)).setCell ⟨S, 1, none⟩ (.bool false)).setCell ⟨S, 2, none⟩ (.slice none 0 0)).setCell ⟨S, 3, none⟩ (.slice none 0 0)).setCell ⟨S, 4, none⟩ (.slice none 0 0)) = X4 from hX4.symm)
  clear hX4 g7 kS q0 q1 q2 q3 q4 p0 p1 p2 p3 p4 r0 r1 r2 r3 r4
  rw [HX4.out]
  try simp only [Exit.inBlock, Exit.then]
  refine bodyPost_ret (ret_cell_tmp rfl rfl G7.out Tryz.underlying38 rfl infReply) rfl ?_
  exact ⟨rfl, FIN.out⟩
end Go.Proofs.YtnidgljkbmceaaaGreatDoor
namespace Go.Proofs.YtnidgljkbmceaaaGreatDoor
open Go.RowKit PrintLast
theorem EngAt.apart {w : World} {E L P R : Nat} {h : Value} {n : Int} (H : EngAt w E L P R h n) : Apart w E L P R := by
  refine ⟨⟨lt_of_block H.eng, World.block_lt_of_cell? _ _ H.led, World.block_lt_of_cell? _ _ H.phase, lt_of_block H.sts⟩, fun e => ?_, fun e => ?_, fun e => ?_⟩
  · have h1 := cell_at H.eng (i := 4) (v := .bool false) rfl
    have h2 := H.led
    rw [e, h1] at h2
    cases h2
  · have h1 := cell_at H.eng (i := 3) (v := .int .i64 0) rfl
    have h2 := H.phase
    rw [e, h1] at h2
    cases h2
  · have h1 := H.sts
    rw [e, H.eng] at h1
    have h2 := Option.some.inj h1
    injection h2 with h3 h4
    exact absurd (congrArg Array.size h3) (by show ¬ (76 = 4); decide)
set_option maxRecDepth 100000 in
set_option maxHeartbeats 3200000 in
theorem awake_any {w : World} (hT : Table w) : Calls Tryz.prog 4 #[] w fun e w' => e = .returned (.bool true) ∧ Below w.heap.size w w' := by
  have TT := hid hT
  have HTB := hid (tables_nil (w := w))
  clear hT
  go_enter Tryz.func4, Tryz.ntmps4
  go_wp2_with fail
  refine HTB.out.mono ?_
  rintro e w1 ⟨T, C, c, rfl, t1, b1⟩
  have BB := hid b1
  have TA := hid t1
  have HD := hid (disk_nil (w := w1))
  clear HTB t1 b1
  go_wp2_with fail
  refine HD.out.mono ?_
  rintro e w2 ⟨D, rfl, d2, b2⟩
  replace BB := hid (below_then BB.out b2)
  have HO := hid (engine_open (c := c) (TT.out.below BB.out) (TA.out.below b2) d2)
  clear HD TA d2 b2
  go_wp2_with fail
  refine HO.out.mono ?_
  rintro e w3 ⟨E, L, P, R, rfl, e3, hE, b3⟩
  have BE := hid (Nat.le_trans BB.out.size hE)
  replace BB := hid (below_then BB.out b3)
  have AP := hid e3.apart
  have HA := hid (do_ask e3 e3.apart)
  clear HO e3 hE b3
  unfold askV at HA
  go_wp2_with fail
  refine HA.out.mono ?_
  rintro e w4 ⟨g, c4, h4, rfl, gS, cg, e4, k4⟩
  replace BB := hid (show Below w.heap.size w w4 from BB.out.trans ⟨k4.os, k4.tape, k4.output, k4.size, fun k hk => k4.block k (Nat.lt_of_lt_of_le hk BB.out.size) (fun e => by have := BE.out; omega)⟩)
  have E4 := hid e4
  have CG := hid cg
  clear HA gS cg e4 k4 AP
  unfold toldV
  obtain ⟨S3, hS3⟩ : ∃ S3, S3 = w4.heap.size := ⟨_, rfl⟩
  have g3 := heap_alloc_new w4 (.cells #[.int .i64 0, .bool false, .slice none 0 0, .slice (some ⟨g, 0, none⟩) 1 c4, .slice none 0 0] 38)
  have al := below_alloc (Below.refl _ w4) (.cells #[.int .i64 0, .bool false, .slice none 0 0, .slice (some ⟨g, 0, none⟩) 1 c4, .slice none 0 0] 38)
  rw [← hS3] at g3
  have HS3 := hid hS3
  clear hS3
  go_upto_region 3 with fail
  rw [← HS3.out]
  replace E4 := hid (E4.out.below al)
  replace CG := hid (below_cell al CG.out)
  replace BB := hid (below_then BB.out al)
  clear al
  generalize w4.alloc (.cells #[.int .i64 0, .bool false, .slice none 0 0, .slice (some ⟨g, 0, none⟩) 1 c4, .slice none 0 0] 38) = w5 at *
  have d0 := cell_at g3 (i := 0) rfl
  have d3 := cell_at g3 (i := 3) rfl
  have cg := CG.out
  have HF : Hid (∀ w' : World, Calls Tryz.prog 12 #[] w' fun e w'' => e = .returned (.string first0) ∧ Below w'.heap.size w' w'') := hid (fun w' => rfirst_any)
  have HQ : Hid (∀ w' : World, Below w5.heap.size w5 w' → Calls Tryz.prog 13 #[.pointer (some ⟨E, 0, none⟩)] w' fun e w'' => e = .returned (.bool true) ∧ w' = w'') := hid (fun w' hb => quiet_any (E4.out.below hb))
  obtain ⟨d, hd⟩ : ∃ d, d = first0 := ⟨_, rfl⟩
  rw [← hd] at cg HF
  have tt : (d.toList == d.toList) = true := beq_self_eq_true _
  clear hd CG g3
  go_wp2
  refine start_ (n := 29) (S := fun w' => w'.cell? ⟨S3, 0, none⟩ = some (.int .i64 0) ∧ w'.cell? ⟨S3, 3, none⟩ = some (.slice (some ⟨g, 0, none⟩) 1 c4) ∧ w'.cell? ⟨g, 0, none⟩ = some (.string d) ∧ Below w5.heap.size w5 w') (ds := []) (tf 29 0) (by kernel_rfl) rfl rfl ⟨d0, d3, cg, (Below.refl w5.heap.size w5).drew⟩ (fun hHeld => ?_); refine pure_ (i := 0) (N := some 17) (v := ?_) (a' := ?_) (tf 29 1) rfl rfl (by kernel_rfl) (fun _ _ _ h => h) (Or.inl ⟨by rfl, ?_⟩) ?_ ?_; rotate_left; (· intro w'; go_simp; (with_reducible rfl)); rotate_left; (· simp only [pn_]; rfl); refine pure_ (i := 1) (N := some 18) (v := ?_) (a' := ?_) (tf 29 3) rfl rfl (by kernel_rfl) (fun _ _ _ h => h) (Or.inl ⟨by rfl, ?_⟩) ?_ ?_; rotate_left; (· intro w'; go_simp; (with_reducible rfl)); rotate_left; (· simp only [pn_]; rfl); refine pure_ (i := 2) (N := some 19) (v := ?_) (a' := ?_) (tf 29 7) rfl rfl (by kernel_rfl) (fun _ _ _ h => h) (Or.inl ⟨by rfl, ?_⟩) ?_ ?_; rotate_left; (· intro w'; go_simp; (with_reducible rfl)); rotate_left; (· simp only [pn_]; rfl); refine pure_ (i := 3) (N := some 20) (v := ?_) (a' := ?_) (tf 29 15) rfl rfl (by kernel_rfl) (fun _ _ _ h => h) (Or.inl ⟨by rfl, ?_⟩) ?_ ?_; rotate_left; (· intro w'; go_simp; (with_reducible rfl)); rotate_left; (· simp only [pn_]; rfl); refine pure_ (i := 4) (N := some 21) (v := ?_) (a' := ?_) (tf 29 31) rfl rfl (by kernel_rfl) (fun _ _ _ h => h) (Or.inl ⟨by rfl, ?_⟩) ?_ ?_; rotate_left; (· intro w'; go_simp; (with_reducible rfl)); rotate_left; (· simp only [pn_]; rfl); refine pure_ (i := 5) (N := some 22) (v := ?_) (a' := ?_) (tf 29 63) rfl rfl (by kernel_rfl) (fun _ _ _ h => h) (Or.inl ⟨by rfl, ?_⟩) ?_ ?_; rotate_left; (· intro w'; go_simp; (with_reducible rfl)); rotate_left; (· simp only [pn_]; rfl); refine pure_ (i := 6) (N := some 23) (v := ?_) (a' := ?_) (tf 29 127) rfl rfl (by kernel_rfl) (fun _ _ _ h => h) (Or.inl ⟨by rfl, ?_⟩) ?_ ?_; rotate_left; (· intro w'; go_simp; (with_reducible rfl)); rotate_left; (· simp only [pn_]; rfl); refine take_ (i := 7) (N := some 24) (v := ?_) (a' := ?_) (tf 29 255) rfl rfl (by kernel_rfl) (fun _ _ _ h => h) (Or.inl ⟨by rfl, ?_⟩) hHeld ?_ ?_; rotate_left; (· rintro w' ⟨s0, s1, s2, s3⟩; go_simp; (with_reducible rfl)); rotate_left; (· simp only [pn_]; rfl); refine pure_ (i := 8) (N := some 25) (v := ?_) (a' := ?_) (tf 29 511) rfl rfl (by kernel_rfl) (fun _ _ _ h => h) (Or.inl ⟨by rfl, ?_⟩) ?_ ?_; rotate_left; (· intro w'; go_simp; (with_reducible rfl)); rotate_left; (· simp only [pn_]; rfl); refine pure_ (i := 9) (N := some 26) (v := ?_) (a' := ?_) (tf 29 1023) rfl rfl (by kernel_rfl) (fun _ _ _ h => h) (Or.inl ⟨by rfl, ?_⟩) ?_ ?_; rotate_left; (· intro w'; go_simp; (with_reducible rfl)); rotate_left; (· simp only [pn_]; rfl); refine pure_ (i := 10) (N := some 27) (v := ?_) (a' := ?_) (tf 29 2047) rfl rfl (by kernel_rfl) (fun _ _ _ h => h) (Or.inl ⟨by rfl, ?_⟩) ?_ ?_; rotate_left; (· intro w'; go_simp; (with_reducible rfl)); rotate_left; (· simp only [pn_]; rfl); refine pure_ (i := 11) (N := some 28) (v := ?_) (a' := ?_) (tf 29 4095) rfl rfl (by kernel_rfl) (fun _ _ _ h => h) (Or.inl ⟨by rfl, ?_⟩) ?_ ?_; rotate_left; (· intro w'; go_simp; (with_reducible rfl)); rotate_left; (· simp only [pn_]; rfl); refine take_ (i := 12) (N := some 29) (v := ?_) (a' := ?_) (tf 29 8191) rfl rfl (by kernel_rfl) (fun _ _ _ h => h) (Or.inl ⟨by rfl, ?_⟩) hHeld ?_ ?_; rotate_left; (· rintro w' ⟨s0, s1, s2, s3⟩; go_simp; (with_reducible rfl)); rotate_left; (· simp only [pn_]; rfl); refine pure_ (i := 13) (N := some 30) (v := ?_) (a' := ?_) (tf 29 16383) rfl rfl (by kernel_rfl) (fun _ _ _ h => h) (Or.inl ⟨by rfl, ?_⟩) ?_ ?_; rotate_left; (· intro w'; go_simp; (with_reducible rfl)); rotate_left; (· simp only [pn_]; rfl); refine pure_ (i := 14) (N := some 31) (v := ?_) (a' := ?_) (tf 29 32767) rfl rfl (by kernel_rfl) (fun _ _ _ h => h) (Or.inl ⟨by rfl, ?_⟩) ?_ ?_; rotate_left; (· intro w'; go_simp; (with_reducible rfl)); rotate_left; (· simp only [pn_]; rfl); refine pure_ (i := 15) (N := some 32) (v := ?_) (a' := ?_) (tf 29 65535) rfl rfl (by kernel_rfl) (fun _ _ _ h => h) (Or.inl ⟨by rfl, ?_⟩) ?_ ?_; rotate_left; (· intro w'; go_simp; (with_reducible rfl)); rotate_left; (· simp only [pn_]; rfl); refine pure_ (i := 16) (N := some 33) (v := ?_) (a' := ?_) (tf 29 131071) rfl rfl (by kernel_rfl) (fun _ _ _ h => h) (Or.inl ⟨by rfl, ?_⟩) ?_ ?_; rotate_left; (· intro w'; go_simp; (with_reducible rfl)); rotate_left; (· simp only [pn_]; rfl); refine pure_ (i := 17) (N := some 34) (v := ?_) (a' := ?_) (tf 29 262143) rfl rfl (by kernel_rfl) (fun _ _ _ h => h) (Or.inl ⟨by rfl, ?_⟩) ?_ ?_; rotate_left; (· intro w'; go_simp; (with_reducible rfl)); rotate_left; (· simp only [pn_]; rfl); refine take_ (i := 18) (N := some 35) (v := ?_) (a' := ?_) (tf 29 524287) rfl rfl (by kernel_rfl) (fun _ _ _ h => h) (Or.inl ⟨by rfl, ?_⟩) hHeld ?_ ?_; rotate_left; (· rintro w' ⟨s0, s1, s2, s3⟩; go_simp; (with_reducible rfl)); rotate_left; (· simp only [pn_]; rfl); refine pure_ (i := 19) (N := some 36) (v := ?_) (a' := ?_) (tf 29 1048575) rfl rfl (by kernel_rfl) (fun _ _ _ h => h) (Or.inl ⟨by rfl, ?_⟩) ?_ ?_; rotate_left; (· intro w'; go_simp; (with_reducible rfl)); rotate_left; (· simp only [pn_]; rfl); refine take_ (i := 20) (N := some 37) (v := ?_) (a' := ?_) (tf 29 2097151) rfl rfl (by kernel_rfl) (fun _ _ _ h => h) (Or.inl ⟨by rfl, ?_⟩) hHeld ?_ ?_; rotate_left; (· rintro w' ⟨s0, s1, s2, s3⟩; go_simp; (with_reducible rfl)); rotate_left; (· simp only [pn_]; rfl); refine one_ (i := 21) (N := some 38) (tf 29 4194303) rfl rfl (by kernel_rfl) (by decide) (fun K hK => ?_); refine goes_ Tryz.func12 (by kernel_rfl) rfl #[] (by rfl) rfl rfl (by simp only [List.map_toArray, List.map_cons, List.map_nil]) ?_; (with_reducible refine ((HF.out _)).mono ?_); rintro e' wf ⟨rfl, bf⟩; refine ⟨_, rfl, ?_⟩; refine hK.out _ _ ⟨(below_cell bf hHeld.1), (below_cell bf hHeld.2.1), (below_cell bf hHeld.2.2.1), (below_then hHeld.2.2.2 bf)⟩ (fun hHeld => ?_); clear hK K; refine norm_ (a' := ?_) ?_ ?_; rotate_left; (· show Act.put _ (some 38) _ = _; simp only [pn_]; rfl); refine pure_ (i := 22) (N := some 39) (v := ?_) (a' := ?_) (tf 29 8388607) rfl rfl (by kernel_rfl) (fun _ _ _ h => h) (Or.inl ⟨by rfl, ?_⟩) ?_ ?_; rotate_left; (· intro w'; go_simp; (with_reducible rfl)); rotate_left; (· simp only [pn_]; rfl); refine pure_ (i := 23) (N := some 40) (v := ?_) (a' := ?_) (tf 29 16777215) rfl rfl (by kernel_rfl) (fun _ _ _ h => h) (Or.inl ⟨by rfl, ?_⟩) ?_ ?_; rotate_left; (· intro w'; go_simp; (with_reducible rfl)); rotate_left; (· simp only [pn_]; rfl); refine pure_ (i := 24) (N := some 41) (v := ?_) (a' := ?_) (tf 29 33554431) rfl rfl (by kernel_rfl) (fun _ _ _ h => h) (Or.inl ⟨by rfl, ?_⟩) ?_ ?_; rotate_left; (· intro w'; go_simp; (with_reducible rfl)); rotate_left; (· simp only [pn_]; rfl); refine pure_ (i := 25) (N := some 42) (v := ?_) (a' := ?_) (tf 29 67108863) rfl rfl (by kernel_rfl) (fun _ _ _ h => h) (Or.inl ⟨by rfl, ?_⟩) ?_ ?_; rotate_left; (· intro w'; go_simp; (with_reducible rfl)); rotate_left; (· simp only [pn_]; rfl); refine one_ (i := 26) (N := some 43) (tf 29 134217727) rfl rfl (by kernel_rfl) (by decide) (fun K hK => ?_); refine goes_ Tryz.func13 (by kernel_rfl) rfl #[.pointer (some ⟨E, 0, none⟩)] (by rfl) rfl rfl (by simp only [List.map_toArray, List.map_cons, List.map_nil]; rfl) ?_; (with_reducible refine ((HQ.out _ hHeld.2.2.2)).mono ?_); rintro e' wq ⟨rfl, rfl⟩; refine ⟨_, rfl, ?_⟩; refine hK.out _ _ ⟨hHeld.1, hHeld.2.1, hHeld.2.2.1, hHeld.2.2.2⟩ (fun hHeld => ?_); clear hK K; refine norm_ (a' := ?_) ?_ ?_; rotate_left; (· show Act.put _ (some 43) _ = _; simp only [pn_]; rfl); refine pure_ (i := 27) (N := some 44) (v := ?_) (a' := ?_) (tf 29 268435455) rfl rfl (by kernel_rfl) (fun _ _ _ h => h) (Or.inl ⟨by rfl, ?_⟩) ?_ ?_; rotate_left; (· intro w'; go_simp; (with_reducible rfl)); rotate_left; (· simp only [pn_]; rfl); refine pure_ (i := 28) (N := some 0) (v := ?_) (a' := ?_) (tf 29 536870911) rfl rfl (by kernel_rfl) (fun _ _ _ h => h) (Or.inl ⟨by rfl, ?_⟩) ?_ ?_; rotate_left; (· intro w'; go_simp; (with_reducible rfl)); rotate_left; (· simp only [pn_]; rfl); refine done_ (by kernel_rfl) ?_
  have BF := below_then BB.out hHeld.2.2.2
  go_wp2
  go_ret
  exact ⟨rfl, BF⟩
end Go.Proofs.YtnidgljkbmceaaaGreatDoor
