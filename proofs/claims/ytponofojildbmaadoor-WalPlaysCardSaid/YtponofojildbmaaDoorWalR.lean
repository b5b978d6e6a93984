/- The walks of the program's Open and of a log's methods, on a disk alone. -/
import Derived.Test.YtponofojildbmaaDoorWalQ
set_option linter.unusedVariables false
set_option linter.unusedSimpArgs false
namespace Go.Proofs.YtponofojildbmaaDoor
open Go.RowKit PrintLast

/-- The blocks of a list lie below M. -/
def Within (M : Nat) (A : Option Addr) (ps : List Part) : Prop := (∀ ad, A = some ad → ad.block < M) ∧ ∀ x ∈ ps, ∀ ad, x.1 = some ad → ad.block < M
theorem Listed.within {w : World} {B c : Nat} {A : Option Addr} {ps : List Part} (h : Listed w B A c ps) : Within w.heap.size A ps :=
  ⟨fun ad e => (h.1.lt ad.block (by rw [e]; rfl)).2, fun x hx ad e => ((h.2 x hx).lt ad.block (by rw [e]; rfl)).2⟩
theorem Listed.keepsM {S : Nat → Prop} {w w' : World} {B M c : Nat} {A : Option Addr} {ps : List Part} (h : Listed w B A c ps) (hm : Within M A ps) (hk : Keeps S w w') (hS : ∀ k, S k → k < B ∨ M ≤ k) : Listed w' B A c ps :=
  ⟨hk.own h.1 (fun k e hs => by
    cases A with
    | none => cases e
    | some ad =>
      have e2 : ad.block = k := by simpa [Value.ownBlock] using e
      have h1 := (h.1.lt k e).1
      have h2 := hm.1 ad rfl
      rcases hS k hs with q | q <;> omega), fun x hx => (h.2 x hx).keeps hk (fun ad e hs => by
    have h1 := ((h.2 x hx).lt ad.block (by rw [e]; rfl)).1
    have h2 := hm.2 x hx ad e
    rcases hS _ hs with q | q <;> omega)⟩
theorem DiskAt.uniq {w : World} {b : Nat} {r r' : Option Nat} {s : DS} (h : DiskAt w b r s) (h' : DiskAt w b r' s) : r = r' := by
  obtain ⟨A, c, h1, _, h3, _⟩ := h
  obtain ⟨A', c', h1', _, h3', _⟩ := h'
  rw [h1] at h1'
  have e := (Obj.cells.inj (Option.some.inj h1')).1
  have e2 : (dcells (.slice A s.p.length c) s.safe s.calls s.fails)[0]? = (dcells (.slice A' s.p.length c') s.safe s.calls s.fails)[0]? := by rw [e]
  have e3 : Value.slice A s.p.length c = Value.slice A' s.p.length c' := by simpa [dcells] using e2
  rw [← h3, ← h3', e3]
/-- What Open leaves, of a disk alone. -/
def OpenedAt (w : World) (b : Nat) (r : Option Nat) (s : DS) (e : Ending) (w' : World) : Prop :=
  ∃ r1, DiskAt w' b r1 (opS s) ∧ Next w r r1 ∧ Keeps (Foot b r) w w' ∧
    ((opE s = 0 ∧ ∃ lg R c ps, e = .returned (.tuple #[.pointer (some ⟨lg, 0, none⟩), .slice R ps.length c, .int .i64 0]) ∧ Listed w' w.heap.size R c ps ∧ texts ps = (scanB s.p).1 ∧ w'.heap[lg]? = some (logO b (opN s)) ∧ w.heap.size ≤ lg ∧ r1 ≠ some lg ∧ lg ≠ b ∧ ∃ M, Within M R ps ∧ ∀ k, r1 = some k → k < w.heap.size ∨ M ≤ k) ∨
    (opE s = 9 ∧ e = .returned (.tuple #[.pointer none, .slice none 0 0, .int .i64 9])))

set_option maxRecDepth 100000 in
set_option maxHeartbeats 3200000 in
theorem open_at {w : World} (hT : Table w) {b : Nat} {r : Option Nat} {s : DS} (h : DiskAt w b r s) (hbig : s.p.length ≤ 10000000) :
    Calls Tryd.prog 24 #[.pointer (some ⟨b, 0, none⟩)] w (OpenedAt w b r s) := by
  have l1 := h.lt
  have HR := hid (read_any h (by omega))
  obtain ⟨n, hn⟩ : ∃ n, n = s.p.length := ⟨_, rfl⟩
  have HN := hid hn
  rw [← hn] at HR
  have hnb : n ≤ 10000000 := by rw [hn]; exact hbig
  have H1 := hid h
  have L1 := hid l1
  have HT := hid hT
  clear h l1 hT hn
  go_enter Tryd.func24, Tryd.ntmps24
  go_wp2_with fail
  refine HR.out.mono ?_
  rintro e w1 ⟨A1, c1, rfl, m1, m2, m3⟩
  have r1 : Row w1 w.heap.size A1 c1 s.p := Made.row ⟨by rw [← HN.out]; exact m1, m2, m3⟩ HN.out
  have H := hid (scan_gave (HT.out.below m3) HN.out.symm r1 (by omega))
  clear m1 m2 HR
  go_wp2_with fail
  refine H.out.mono ?_
  rintro e w2 ⟨R, c2, ps, rfl, lp, hps, b2⟩
  have B2 := below_then m3 b2
  replace lp := lp.lower m3.size
  obtain ⟨m, hm⟩ : ∃ m, m = opN s := ⟨_, rfl⟩
  have hm' : (scanB s.p).2 = m := by rw [hm]; rfl
  have hmn : m ≤ n := by rw [hm, HN.out]; exact opN_le s
  rw [hm']
  have HM := hid hm
  have HPS := hid hps
  have d2 := H1.out.keeps (Keeps.of_below (S := fun _ => False) B2) (fun e => e) (fun _ _ e => e)
  have k2 : Keeps (Foot b r) w w2 := Keeps.of_below B2
  have sw2 : w.heap.size ≤ w2.heap.size := B2.size
  by_cases hlt : m < n
  · have t1 : decide ((m : Int) < (n : Int)) = true := by simp; omega
    have t1' : decide (m < n) = true := by simp [hlt]
    have oS : opS s = s.cuts (m : Int) := by unfold opS; rw [← HM.out, if_pos (by rw [← HN.out]; exact hlt)]
    have oE : opE s = s.errno := by unfold opE; rw [← HM.out, if_pos (by rw [← HN.out]; exact hlt)]
    have H := hid (cut_at d2 (n := (m : Int)) (by omega) (by rw [← HN.out]; omega))
    have OO := hid (And.intro oS oE)
    have fin : Hid (∀ (r1 : Option Nat) (w3 : World), DiskAt w3 b r1 (s.cuts (m : Int)) → Next w2 r r1 → Keeps (Foot b r) w2 w3 → DiskAt w3 b r1 (opS s) ∧ Next w r r1 ∧ Keeps (Foot b r) w w3 ∧ Listed w3 w.heap.size R c2 ps ∧ (Within w2.heap.size R ps ∧ ∀ k, r1 = some k → k < w.heap.size ∨ w2.heap.size ≤ k)) := hid (fun r1 w3 k1 k2' k3 => by
      refine ⟨by rw [OO.out.1]; exact k1, fun k hk => ?_, k2.then k3 (fun k _ e => e), lp.keeps k3 (fun k hk => ?_), lp.within, fun k hk => ?_⟩
      · rcases k2' k hk with e | e
        · exact .inl e
        · exact .inr (by omega)
      · rcases hk with e | e
        · have := L1.out.1; omega
        · exact L1.out.2 k e
      · rcases k2' k hk with e | e
        · exact .inl (L1.out.2 k e)
        · exact .inr e)
    clear hlt oS oE d2 lp hps r1 b2 m3 hm hm' k2
    go_wp2_with fail
    refine H.out.mono ?_
    rintro e w3 ⟨rfl, r1, k1, k2, k3⟩
    obtain ⟨f1, f2, f3, f4, f5⟩ := fin.out r1 w3 k1 k2 k3
    have FW := hid f5
    clear f5
    have sw3 : w2.heap.size ≤ w3.heap.size := k3.size
    clear k1 k2 k3 H fin
    rcases errno_ok s with he | he
    · rw [he]
      have HE := hid (show opE s = 0 by rw [OO.out.2, he])
      have al := below_alloc (Below.refl _ w3) (logO b m)
      have g1 := f1.keeps (Keeps.of_below (S := fun _ => False) al) (fun e => e) (fun _ _ e => e)
      have g3 : Keeps (Foot b r) w (w3.alloc (logO b m)) := f3.below al
      have g4 := f4.below al
      have g5 : (w3.alloc (logO b m)).heap[w3.heap.size]? = some (logO b m) := heap_alloc_new w3 _
      have g6 : r1 ≠ some w3.heap.size := fun e => by have := f1.lt.2 _ e; omega
      have g7 : w3.heap.size ≠ b := by have := f1.lt.1; omega
      have G := hid (And.intro g1 (And.intro g3 (And.intro g4 (And.intro g5 (And.intro g6 g7)))))
      clear he f1 f3 f4 al g1 g3 g4 g5 g6 g7
      go_wp2
      go_ret3
      exact ⟨r1, G.out.1, f2, G.out.2.1, .inl ⟨HE.out, w3.heap.size, R, c2, ps, rfl, G.out.2.2.1, HPS.out, by rw [← HM.out]; exact G.out.2.2.2.1, by omega, G.out.2.2.2.2.1, G.out.2.2.2.2.2, _, FW.out⟩⟩
    · rw [he]
      have HE := hid (show opE s = 9 by rw [OO.out.2, he])
      clear he
      go_wp2
      go_ret3
      exact ⟨r1, f1, f2, f3, .inr ⟨HE.out, rfl⟩⟩
  · have t1 : decide ((m : Int) < (n : Int)) = false := by simp; omega
    have t1' : decide (m < n) = false := by simp [hlt]
    have oS : opS s = s := by unfold opS; rw [← HM.out, if_neg (by rw [← HN.out]; exact hlt)]
    have oE : opE s = 0 := by unfold opE; rw [← HM.out, if_neg (by rw [← HN.out]; exact hlt)]
    have al := below_alloc (Below.refl _ w2) (logO b m)
    have g1 := d2.keeps (Keeps.of_below (S := fun _ => False) al) (fun e => e) (fun _ _ e => e)
    have g3 : Keeps (Foot b r) w (w2.alloc (logO b m)) := k2.below al
    have FW := hid (And.intro lp.within (fun k (hk : r = some k) => (Or.inl (L1.out.2 k hk) : k < w.heap.size ∨ w2.heap.size ≤ k)))
    have g4 := lp.below al
    have g5 : (w2.alloc (logO b m)).heap[w2.heap.size]? = some (logO b m) := heap_alloc_new w2 _
    have g6 : r ≠ some w2.heap.size := fun e => by have := L1.out.2 _ e; omega
    have g7 : w2.heap.size ≠ b := by have := L1.out.1; omega
    have G := hid (And.intro g1 (And.intro g3 (And.intro g4 (And.intro g5 (And.intro g6 g7)))))
    have OO := hid (And.intro oS oE)
    clear hlt oS oE d2 lp hps r1 b2 m3 hm hm' k2 al g1 g3 g4 g5 g6 g7
    go_wp2
    go_ret3
    exact ⟨r, by rw [OO.out.1]; exact G.out.1, fun k hk => .inl hk, G.out.2.1, .inl ⟨OO.out.2, w2.heap.size, R, c2, ps, rfl, G.out.2.2.1, HPS.out, by rw [← HM.out]; exact G.out.2.2.2.1, sw2, G.out.2.2.2.2.1, G.out.2.2.2.2.2, _, FW.out⟩⟩

/-- A log on a disk. -/
def LogAt (w : World) (b : Nat) (r : Option Nat) (s : DS) (lg n : Nat) : Prop := DiskAt w b r s ∧ w.heap[lg]? = some (logO b n) ∧ lg ≠ b ∧ r ≠ some lg
theorem LogAt.keeps {S : Nat → Prop} {w w' : World} {b : Nat} {r : Option Nat} {s : DS} {lg n : Nat} (h : LogAt w b r s lg n) (hk : Keeps S w w') (hb : ¬ S b) (hr : ∀ k, r = some k → ¬ S k) (hl : ¬ S lg) : LogAt w' b r s lg n :=
  ⟨h.1.keeps hk hb hr, hk.heap h.2.1 hl, h.2.2⟩
theorem LogAt.below {w w' : World} {b : Nat} {r : Option Nat} {s : DS} {lg n : Nat} (h : LogAt w b r s lg n) (hb : Below w.heap.size w w') : LogAt w' b r s lg n :=
  h.keeps (Keeps.of_below (S := fun _ => False) hb) (fun e => e) (fun _ _ e => e) (fun e => e)
def FootL (b : Nat) (r : Option Nat) (lg : Nat) (k : Nat) : Prop := Foot b r k ∨ k = lg

set_option maxRecDepth 100000 in
set_option maxHeartbeats 3200000 in
theorem append_log {w : World} (hT : Table w) {b : Nat} {r : Option Nat} {s : DS} {lg n : Nat} (h : LogAt w b r s lg n) {A : Option Addr} {c : Nat} {p : List UInt8} (hp : BSA w A c p) (hb : p.length ≤ 1000000) (hs : s.p.length ≤ 100000000) (hn : n ≤ 100000000) :
    Calls Tryd.prog 28 #[.pointer (some ⟨lg, 0, none⟩), .slice A p.length c] w fun e w' => e = .returned (.int .i64 s.errno) ∧ ∃ r1, LogAt w' b r1 (s.append (frameB p)) lg (if s.ok then n + (8 + p.length) else n) ∧ Next w r r1 ∧ Keeps (FootL b r lg) w w' := by
  obtain ⟨F, hF⟩ : ∃ F, Hid (F = frameB p) := ⟨_, hid rfl⟩
  have lF : Hid (F.length = 8 + p.length) := hid (by rw [hF.out, frameB_length])
  have t1 : decide ((1048576 : Int) < (p.length : Int)) = false := by simp; omega
  have H := hid (frame_any hT hp (by omega))
  obtain ⟨m, hm⟩ : ∃ m, m = p.length := ⟨_, rfl⟩
  have HM := hid hm
  rw [← hF.out, ← hm] at H
  rw [← hF.out, ← hm]
  rw [← hm] at t1 hb
  have L0 := h
  obtain ⟨RR, hRR⟩ : ∃ R, Hid (R = if s.ok then n + (8 + m) else n) := ⟨_, hid rfl⟩
  rw [← hRR.out]
  clear hp hT hm h
  go_enter Tryd.func28, Tryd.ntmps28
  go_wp2_with fail
  refine H.out.mono ?_
  rintro e w1 ⟨A1, c1, rfl, r1, b1⟩
  obtain ⟨d1, g1, g2, g3⟩ := L0.below b1
  have c0 := cell_at g1 (i := 0) (v := .pointer (some ⟨b, 0, none⟩)) rfl
  have H := hid (append_at d1 r1.bsa (by rw [lF.out, ← HM.out]; omega))
  have k1 : Keeps (FootL b r lg) w w1 := Keeps.of_below b1
  have sw := b1.size
  clear d1 r1 b1
  go_wp2_with fail
  refine H.out.mono ?_
  rintro e w2 ⟨rfl, r2, d2, n2, k2⟩
  have hlg : ¬ Foot b r lg := fun e => by
    rcases e with e | e
    · exact g2 e
    · exact g3 e
  have g4 := k2.heap g1 hlg
  have r2lg : r2 ≠ some lg := fun e => by
    rcases n2 lg e with e | e
    · exact g3 e
    · have := lt_of_block g1; omega
  have k3 : Keeps (FootL b r lg) w w2 := k1.then k2 (fun k _ e => .inl e)
  have n3 : Next w r r2 := fun k hk => by
    rcases n2 k hk with e | e
    · exact .inl e
    · exact .inr (by omega)
  have c1' := cell_at g4 (i := 1) (v := .int .i64 (n : Int)) rfl
  have f1' := free_at g4 1
  cases hok : s.ok
  · have he : s.errno = 9 := by simp [DS.errno, hok]
    rw [he]
    have HEE := hid he
    clear he
    have X := hid (show LogAt w2 b r2 (s.append F) lg RR from ⟨d2, by rw [hRR.out, hok]; exact g4, g2, r2lg⟩)
    clear hok
    clear d2 k2 n2 g1 g4 c0 H k1
    go_wp2
    go_ret
    exact ⟨by rw [HEE.out]; rfl, r2, X.out, n3, k3⟩
  · have he : s.errno = 0 := by simp [DS.errno, hok]
    rw [he]
    have HEE := hid he
    clear he
    have e1 : (n : Int) + ((F.length : Nat) : Int) = ((n + (8 + m) : Nat) : Int) := by rw [lF.out, ← HM.out]; omega
    have KK : Keeps (fun k => k = lg) w2 (w2.setCell ⟨lg, 1, none⟩ (.int .i64 ((n + (8 + m) : Nat) : Int))) := (Keeps.refl (fun k => k = lg) w2).setCell (p := ⟨lg, 1, none⟩) (fun _ => rfl) _
    have X := hid (show LogAt (w2.setCell ⟨lg, 1, none⟩ (.int .i64 ((n + (8 + m) : Nat) : Int))) b r2 (s.append F) lg (n + (8 + m)) from
      ⟨d2.keeps KK (fun e => g2 e.symm) (fun k hk e => r2lg (by rw [hk, e])), by rw [heap_set g4]; rfl, g2, r2lg⟩)
    have K4 := hid (show Keeps (FootL b r lg) w (w2.setCell ⟨lg, 1, none⟩ (.int .i64 ((n + (8 + m) : Nat) : Int))) from k3.then KK (fun k _ e => .inr e))
    have RN := hid (show RR = n + (8 + m) by rw [hRR.out, hok]; rfl)
    clear hok
    obtain ⟨N, hN⟩ : ∃ N, N = n + (8 + m) := ⟨_, rfl⟩
    rw [← hN] at e1 X K4
    have HNN := hid hN
    have hNb : N ≤ 1000000000 := by omega
    clear d2 k2 n2 g1 g4 c0 H k1 KK hN
    go_wp2
    go_ret
    exact ⟨by rw [HEE.out]; rfl, r2, by rw [RN.out, ← HNN.out]; exact X.out, n3, K4.out⟩
set_option maxRecDepth 100000 in
theorem sync_log {w : World} {b : Nat} {r : Option Nat} {s : DS} {lg n : Nat} (h : LogAt w b r s lg n) :
    Calls Tryd.prog 29 #[.pointer (some ⟨lg, 0, none⟩)] w fun e w' => e = .returned (.int .i64 s.errno) ∧ ∃ r1, LogAt w' b r1 s.sync lg n ∧ Next w r r1 ∧ Keeps (Foot b r) w w' := by
  obtain ⟨d1, g1, g2, g3⟩ := h
  have c0 := cell_at g1 (i := 0) (v := .pointer (some ⟨b, 0, none⟩)) rfl
  have H := hid (sync_at d1)
  clear d1
  go_enter Tryd.func29, Tryd.ntmps29
  go_wp2_with fail
  refine H.out.mono ?_
  rintro e w2 ⟨rfl, r2, d2, n2, k2⟩
  have hlg : ¬ Foot b r lg := fun e => by
    rcases e with e | e
    · exact g2 e
    · exact g3 e
  have g4 := k2.heap g1 hlg
  have r2lg : r2 ≠ some lg := fun e => by
    rcases n2 lg e with e | e
    · exact g3 e
    · have := lt_of_block g1; omega
  go_wp2
  go_ret
  exact ⟨rfl, r2, ⟨d2, g4, g2, r2lg⟩, n2, k2⟩
end Go.Proofs.YtponofojildbmaaDoor
