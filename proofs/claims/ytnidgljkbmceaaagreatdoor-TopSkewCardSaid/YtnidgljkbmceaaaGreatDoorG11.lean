/- TopSkew's walks: what comes of committing one or two transactions at once. -/
import Derived.Test.YtnidgljkbmceaaaGreatDoorG10
set_option linter.unusedVariables false
set_option linter.unusedSimpArgs false
namespace Go.Proofs.YtnidgljkbmceaaaGreatDoor
open Go.RowKit PrintLast Go.Maps Go.MapKept
structure TxR where
  id : Int
  T : Nat
  M : Nat
  k : ByteArray
  r : Value
  row : List UInt8
structure TxOk (w : World) (t : TxR) : Prop where
  tx : w.heap[t.T]? = some (.cells (txC t.M) 306 (0, 0))
  map : w.heap[t.M]? = some (.map #[entS t.k (.agg #[.string t.k, t.r, .bool false]) 0] 1)
  row : OwnB w t.r t.row
  key : t.k.size ≤ 1000
  len : t.row.length ≤ 1000000
theorem TxOk.below {w w' : World} {t : TxR} (h : TxOk w t) (hb : Below w.heap.size w w') : TxOk w' t := ⟨below_heap hb h.tx, below_heap hb h.map, h.row.below hb, h.key, h.len⟩
theorem find_miss {k : ByteArray} : ∀ (l : List MapEntry) (i : Nat), (∀ e ∈ l, ∃ k' v n, e = entS k' v n ∧ k ≠ k') → Instr.findNow .string (.string k) l i = some none
  | [], _, _ => rfl
  | e :: l, i, h => by
    obtain ⟨k', v, n, rfl, hne⟩ := h e (.head _)
    rw [find_skip hne]
    exact find_miss l (i + 1) (fun x hx => h x (.tail _ hx))
def keysE (tx : Nat → TxR) (j : Nat) : Array MapEntry := ((List.range j).map fun m => entS (tx m).k (.bool true) m).toArray
theorem keysE_next (tx : Nat → TxR) (j : Nat) : (keysE tx j).push ⟨.string (tx j).k, .bool true, j⟩ = keysE tx (j + 1) := by
  unfold keysE
  rw [List.range_succ, List.map_append]
  simp [entS]
theorem keysE_miss {tx : Nat → TxR} {j : Nat} (h : ∀ m, m < j → (tx j).k ≠ (tx m).k) : Instr.findNow .string (.string (tx j).k) (keysE tx j).toList 0 = some none := by
  refine find_miss _ 0 fun e he => ?_
  unfold keysE at he
  simp at he
  obtain ⟨m, hm, rfl⟩ := he
  exact ⟨_, _, _, rfl, h m hm⟩
theorem wcells_append : ∀ (l m : List (ByteArray × Value)), wcells (l ++ m) = wcells l ++ wcells m
  | [], _ => rfl
  | x :: l, m => by simp [wcells, wcells_append l m]
def RowsOk (w : World) (tx : Nat → TxR) (ws : List (ByteArray × Value)) : Prop := ∀ m (h : m < ws.length), (ws[m]).1 = (tx m).k ∧ OwnB w (ws[m]).2 (tx m).row
theorem RowsOk.keeps {w w' : World} {ts : List TypeId} {ms : List Nat} {tx : Nat → TxR} {ws : List (ByteArray × Value)} (h : RowsOk w tx ws) (hk : KT ts ms [] w w') (ht : 5 ∉ ts) : RowsOk w' tx ws := fun m hm => ⟨(h m hm).1, (h m hm).2.keeps hk ht (fun _ _ h => by cases h)⟩
theorem RowsOk.below {w w' : World} {tx : Nat → TxR} {ws : List (ByteArray × Value)} (h : RowsOk w tx ws) (hb : Below w.heap.size w w') : RowsOk w' tx ws := fun m hm => ⟨(h m hm).1, (h m hm).2.below hb⟩
theorem RowsOk.push {w : World} {tx : Nat → TxR} {ws : List (ByteArray × Value)} {j : Nat} {r : Value} (h : RowsOk w tx ws) (hj : ws.length = j) (hr : OwnB w r (tx j).row) : RowsOk w tx (ws ++ [((tx j).k, r)]) := by
  intro m hm
  by_cases hlt : m < ws.length
  · rw [List.getElem_append_left hlt]
    exact h m hlt
  · have : m = ws.length := by simp at hm; omega
    subst this
    rw [List.getElem_append_right (Nat.le_refl _)]
    simp only [Nat.sub_self, List.getElem_cons_zero]
    subst hj
    exact ⟨rfl, hr⟩
structure FormAt (B : Nat) (w : World) (tx : Nat → TxR) (R4 Bb Q : Nat) (nw : Int) (Vo : Option Addr) (jo co : Nat) (Vw : Option Addr) (jw cw : Nat) (ws : List (ByteArray × Value)) (jq : Nat) : Prop where
  out : w.ownsRow 0 24 1 (.slice Vo jo co) jo (List.replicate jo (.int .i64 0))
  res : w.heap[R4]? = some (.cells #[.int .i64 0, .slice none 0 0] 104 (0, 0))
  bat : w.heap[Bb]? = some (.cells #[.int .i64 nw, .slice Vw jw cw] 104 (0, 0))
  wrs : w.ownsRow 0 209 3 (.slice Vw jw cw) jw (wcells ws)
  rows : RowsOk w tx ws
  map : w.heap[Q]? = some (.map (keysE tx jq) jq)
  fr : B ≤ R4 ∧ B ≤ Bb ∧ B ≤ Q
  fo : ∀ k, (Value.slice Vo jo co).ownBlock = some k → B ≤ k
  fw : ∀ k, (Value.slice Vw jw cw).ownBlock = some k → B ≤ k
  fz : ∀ x ∈ ws, ∀ k, x.2.ownBlock = some k → B ≤ k
section
variable {B : Nat} {w w' : World} {tx : Nat → TxR} {R4 Bb Q jo co jw cw jq : Nat} {nw : Int} {Vo Vw : Option Addr} {ws : List (ByteArray × Value)}
theorem FormAt.below (h : FormAt B w tx R4 Bb Q nw Vo jo co Vw jw cw ws jq) (hb : Below w.heap.size w w') : FormAt B w' tx R4 Bb Q nw Vo jo co Vw jw cw ws jq :=
  ⟨below_own hb h.out, below_heap hb h.res, below_heap hb h.bat, below_own hb h.wrs, h.rows.below hb, below_heap hb h.map, h.fr, h.fo, h.fw, h.fz⟩
theorem FormAt.outs {Vo' : Option Addr} {jo' co' : Nat} (h : FormAt B w tx R4 Bb Q nw Vo jo co Vw jw cw ws jq) (hk : KT [24] [] [] w w') (ho : w'.ownsRow 0 24 1 (.slice Vo' jo' co') jo' (List.replicate jo' (.int .i64 0))) (hf : ∀ k, (Value.slice Vo' jo' co').ownBlock = some k → B ≤ k) : FormAt B w' tx R4 Bb Q nw Vo' jo' co' Vw jw cw ws jq :=
  ⟨ho, hk.cells h.res (by decide), hk.cells h.bat (by decide), own_keeps h.wrs hk (by decide), h.rows.keeps hk (by decide), hk.map h.map (by simp), h.fr, hf, h.fw, h.fz⟩
theorem FormAt.maps {jq' : Nat} (h : FormAt B w tx R4 Bb Q nw Vo jo co Vw jw cw ws jq) (hk : KT [] [Q] [] w w') (hm : w'.heap[Q]? = some (.map (keysE tx jq') jq')) : FormAt B w' tx R4 Bb Q nw Vo jo co Vw jw cw ws jq' :=
  ⟨own_keeps h.out hk (by decide), hk.cells h.res (by decide), hk.cells h.bat (by decide), own_keeps h.wrs hk (by decide), h.rows.keeps hk (by decide), hm, h.fr, h.fo, h.fw, h.fz⟩
theorem FormAt.writes {Vw' : Option Addr} {jw' cw' : Nat} {ws' : List (ByteArray × Value)} (h : FormAt B w tx R4 Bb Q nw Vo jo co Vw jw cw ws jq) (hk : KT [209, 104] [] [] w w') (hr : w'.heap[R4]? = some (.cells #[.int .i64 0, .slice none 0 0] 104 (0, 0))) (hB : w'.heap[Bb]? = some (.cells #[.int .i64 nw, .slice Vw' jw' cw'] 104 (0, 0))) (hw : w'.ownsRow 0 209 3 (.slice Vw' jw' cw') jw' (wcells ws')) (hR : RowsOk w' tx ws') (hf : ∀ k, (Value.slice Vw' jw' cw').ownBlock = some k → B ≤ k) (hz : ∀ x ∈ ws', ∀ k, x.2.ownBlock = some k → B ≤ k) : FormAt B w' tx R4 Bb Q nw Vo jo co Vw' jw' cw' ws' jq :=
  ⟨own_keeps h.out hk (by decide), hr, hB, hw, hR, hk.map h.map (by simp), h.fr, h.fo, hf, hz⟩
end
theorem infBatch : (Tryz.prog.info? 104).map (·.size) = some 2 := by kernel_rfl
theorem infoE : (Tryz.prog.info? 24).map (fun i => (i.zero, i.size, i.bytes)) = some (some (.int .i64 0), 1, 8) := by kernel_rfl
set_option maxRecDepth 100000 in
set_option maxHeartbeats 6400000 in
theorem form_any {w : World} {L Tb tc S O R rn rc I ci n SM q cl : Nat} {next now : Int} {es ss : Array MapEntry} (tx : Nat → TxR) (hn : 1 ≤ n ∧ n ≤ 2)
    (hL : w.heap[L]? = some (.cells (ledC Tb tc S O next R rn rc) 95 (0, 0))) (hO : w.heap[O]? = some (.map es cl)) (hS : w.heap[S]? = some (.cells (stoC SM now) 137 (0, 0))) (hSM : w.heap[SM]? = some (.map ss q)) (hnow : 0 ≤ now ∧ now ≤ 1000)
    (hids : ∀ j, j < n → w.cell? ⟨I, j, none⟩ = some (.int .i64 (tx j).id)) (hci : n ≤ ci ∧ ci ≤ 9223372036854775807)
    (hof : ∀ j, j < n → ∃ i, Instr.findNow (.int .i64) (.int .i64 (tx j).id) es.toList 0 = some (some (i, .pointer (some ⟨(tx j).T, 0, none⟩))))
    (htx : ∀ j, j < n → TxOk w (tx j)) (hss : ∀ j, j < n → Instr.findNow .string (.string (tx j).k) ss.toList 0 = some none)
    (hdi : ∀ j, j < n → ∀ m, m < j → (tx j).id ≠ (tx m).id) (hk : ∀ j, j < n → ∀ m, m < j → (tx j).k ≠ (tx m).k) (hbe : n = 2 → Behind (tx 1).k (tx 0).k) :
    Calls Tryz.prog 154 #[.pointer (some ⟨L, 0, none⟩), .slice (some ⟨I, 0, none⟩) n ci] w fun e w' => ∃ g c go co ws, e = .returned (.tuple #[.agg #[.int .i64 (now + 1), .slice (some ⟨g, 0, none⟩) n c], .slice (some ⟨go, 0, none⟩) n co]) ∧
      w'.ownsRow 0 209 3 (.slice (some ⟨g, 0, none⟩) n c) n (wcells ws) ∧ ws.length = n ∧ RowsOk w' tx ws ∧ w'.ownsRow 0 24 1 (.slice (some ⟨go, 0, none⟩) n co) n (List.replicate n (.int .i64 0)) ∧ (∀ x ∈ ws, ∀ k, x.2.ownBlock = some k → w.heap.size ≤ k) ∧ Below w.heap.size w w' := by
  have ew : wrap64 (now + 1) = now + 1 := by unfold wrap64; omega
  obtain ⟨nw, hnw⟩ : ∃ nw, nw = now + 1 := ⟨_, rfl⟩
  rw [← hnw]
  replace ew : wrap64 (now + 1) = nw := by rw [ew, hnw]
  have W0 := below_alloc (Below.refl _ w) (.cells #[.int .i64 0, .slice none 0 0] 104)
  have HN := hid (lnow_any (below_heap W0 hL) (below_heap W0 hS))
  have hmm := @run_makeMap Tryz.prog
  have FX := hid (And.intro hL (And.intro hO (And.intro hS (And.intro hSM (And.intro hids (And.intro hci (And.intro hof (And.intro htx (And.intro hss (And.intro hdi (And.intro hk hbe)))))))))))
  clear hL hO hS hSM hids hof htx hss hdi hk hbe hnow hnw W0
  go_enter Tryz.func154, Tryz.ntmps154
  go_wp2_with fail
  refine HN.out.mono ?_
  rintro e w1 ⟨rfl, rfl⟩
  clear HN
  obtain ⟨R4, hR4⟩ : ∃ x, x = w.heap.size := ⟨_, rfl⟩
  obtain ⟨Bb, hBb⟩ : ∃ x, x = w.heap.size + 1 := ⟨_, rfl⟩
  obtain ⟨Q, hQ⟩ : ∃ x, x = w.heap.size + 1 + 1 := ⟨_, rfl⟩
  obtain ⟨w3, hw3⟩ : ∃ w3, w3 = ((w.alloc (.cells #[.int .i64 0, .slice none 0 0] 104)).alloc (.cells #[.int .i64 nw, .slice none 0 0] 104)).alloc (.map #[] 0) := ⟨_, rfl⟩
  obtain ⟨a1, a2, a3, b3⟩ := alloc3 w (.cells #[.int .i64 0, .slice none 0 0] 104) (.cells #[.int .i64 nw, .slice none 0 0] 104) (.map #[] 0)
  rw [← hw3, ← hR4] at a1
  rw [← hw3, ← hBb] at a2
  rw [← hw3, ← hQ] at a3
  rw [← hw3] at b3
  have QQ := hid (And.intro hR4 (And.intro hBb (And.intro hQ hw3)))
  have ST := hid (And.intro a1 (And.intro a2 (And.intro a3 b3)))
  clear hR4 hBb hQ hw3 a1 a2 a3 b3
  go_wp2
  rw [← QQ.out.2.2.2, ← QQ.out.2.2.1, ← QQ.out.2.1, ← QQ.out.1]
  rw [ew]
  clear ew
  go_loopw [8, 22] (fun v i wr => ∃ (j co cw : Nat) (Vo Vw : Option Addr) (ws : List (ByteArray × Value)), j ≤ n ∧ i = .int .i64 j ∧ v = .slice Vo j co ∧ Hid (ws.length = j ∧ FormAt w.heap.size wr tx R4 Bb Q nw Vo j co Vw j cw ws j ∧ Below w.heap.size w wr)) (fun _ i _ => n - (intOf i).toNat)
  case atStart => exact ⟨0, 0, 0, none, none, [], by omega, rfl, rfl, hid ⟨rfl, ⟨World.ownsRow_nil _ _ _ _, ST.out.1, ST.out.2.1, World.ownsRow_nil _ _ _ _, fun m h => by simp at h, ST.out.2.2.1, by rw [QQ.out.1, QQ.out.2.1, QQ.out.2.2.1]; omega, fun k e => by simp [Value.ownBlock] at e, fun k e => by simp [Value.ownBlock] at e, fun x h => by simp at h⟩, ST.out.2.2.2⟩⟩
  case round =>
    clear ST
    obtain ⟨j, co, cw, Vo, Vw, ws, hj, rfl, rfl, HH⟩ := hrel
    have hb := HH.out.2.2
    by_cases hlt : j < n
    · have t1 : decide ((j : Int) < (n : Int)) = true := by simp; omega
      obtain ⟨hL, hO, hS, hSM, hids, hci, hof, htx, hss, hdi, hk, hbe⟩ := FX.out
      have cI := below_cell hb (hids j hlt)
      obtain ⟨ix, hofj⟩ := hof j hlt
      have HO := hid (of_hit (below_heap hb hL) (below_heap hb hO) hofj)
      have TX := hid ((htx j hlt).below hb)
      have KM := hid (keysE_miss (hk j hlt))
      have SS := hid (hss j hlt)
      have HC : Hid (Calls Tryz.prog 144 #[.slice (some ⟨I, 0, none⟩) j ci, .int .i64 (tx j).id] wr fun e w' => e = .returned (.bool false) ∧ wr = w') := hid (by
        match j, hlt with
        | 0, _ => exact contains_none
        | 1, _ => exact contains_one (below_cell hb (hids 0 (by omega))) (hdi 1 (by omega) 0 (by omega))
        | j + 2, h => omega)
      have HLa := hid (late_no TX.out.tx TX.out.map TX.out.row TX.out.key TX.out.len (below_heap hb hS) (below_heap hb hSM) SS.out)
      have c1 := cell_at (below_heap hb hL) (i := 1) (v := .pointer (some ⟨S, 0, none⟩)) rfl
      have hci1 : j ≤ ci := by omega
      have hci2 := hci.2
      clear hL hO hS hSM hids hci hof htx hss hdi hk hbe hofj
      obtain ⟨id, hid2⟩ : ∃ x, x = (tx j).id := ⟨_, rfl⟩
      obtain ⟨T, hT2⟩ : ∃ x, x = (tx j).T := ⟨_, rfl⟩
      rw [← hid2] at cI HO HC
      rw [← hT2] at HO HLa
      have ID := hid (And.intro hid2 hT2)
      clear hid2 hT2
      clear hb
      go_wp2_with fail
      refine HO.out.mono ?_
      rintro e w4 ⟨rfl, rfl⟩
      clear HO
      go_wp2_with fail
      refine HC.out.mono ?_
      rintro e w4 ⟨rfl, rfl⟩
      clear HC
      go_wp2_with fail
      refine HLa.out.mono ?_
      rintro e w4 ⟨rfl, b4⟩
      have BB := hid (below_then HH.out.2.2 b4)
      have TX4 := TX.out.below b4
      have FA := hid (HH.out.2.1.below b4)
      have HM := hid (meets_no TX4.tx TX4.map TX4.row TX4.key TX4.len FA.out.map KM.out)
      rw [← ID.out.2] at HM
      have WL := hid HH.out.1
      replace TX := hid TX4
      clear HLa b4 TX4 c1 cI HH
      go_wp2_with fail
      refine HM.out.mono ?_
      rintro e w5 ⟨rfl, b5⟩
      replace BB := hid (below_then BB.out b5)
      replace TX := hid (TX.out.below b5)
      replace FA := hid (FA.out.below b5)
      clear HM b5
      obtain ⟨i1, hi, hz0, hz1, hz2⟩ := info_parts infoE
      have oE := FA.out.out.alloc (.cells #[.int .i64 0] 24)
      go_wp2_with (at_builtin; refine wpList_app rfl (.tmp 59) (.tmp 61) 111 rfl 24 i1 (.int .i64 0) 1 8 Tryz.underlying111 hi hz0 hz1 hz2 rfl (by decide) _ j (List.replicate j (.int .i64 0)) rfl oE (some ⟨w5.heap.size, 0, none⟩) 1 1 [.int .i64 0] rfl rfl (fun e => by cases e) (by intro ad e j u hu; cases e; rw [add_plain]; exact cell_at (heap_alloc_new _ _) (by simpa using hu)) (by intro u hu; simp at hu; rcases hu with rfl; rfl) (by unfold maxLen; omega) (by omega) ?_)
      intro A6 c6 w6 m1 m2 m3
      have k6 : KT [24] [] [] w5 w6 := ((KT.refl _ _ _ w5).alloc _).grown m2 (fun k e _ => by
        obtain ⟨cur, hc⟩ := own_typed FA.out.out e
        exact ⟨_, hc, .inl (.head _)⟩)
      have m1' : w6.ownsRow 0 24 1 (.slice A6 (j + 1) c6) (j + 1) (List.replicate (j + 1) (.int .i64 0)) := by rw [List.replicate_succ']; exact m1
      have FA6 := hid (FA.out.outs k6 m1' (fun k e => by
        rcases m3 with m3 | m3
        · rw [m3] at e; exact FA.out.fo k e
        · rw [m3] at e; simp at e; have := BB.out.size; omega))
      have B6 := hid ((BB.out.alloc BB.out.size _).grown m2 (by have := BB.out.size; simp; omega) FA.out.fo)
      replace TX : Hid (TxOk w6 (tx j)) := hid ⟨k6.cells TX.out.tx (by decide), k6.map TX.out.map (by simp), TX.out.row.keeps k6 (by decide) (fun _ _ h => by cases h), TX.out.key, TX.out.len⟩
      have HW := hid (writes_one TX.out.tx TX.out.map TX.out.row TX.out.key TX.out.len)
      rw [← ID.out.2] at HW
      obtain ⟨kk, hkk⟩ : ∃ x, x = (tx j).k := ⟨_, rfl⟩
      rw [← hkk] at HW KM SS
      have HKK := hid hkk
      clear hkk FA BB oE m1 m1' m2 m3 k6 hi hz0 hz1 hz2
      go_wp2_with fail
      refine HW.out.mono ?_
      rintro e w7 ⟨g7, c7, r7, rfl, o7, s7, o7', f7, b7⟩
      have z6 := B6.out.size
      replace FA6 := hid (FA6.out.below b7)
      replace B6 := hid (below_then B6.out b7)
      obtain ⟨A7, m7, rfl, -⟩ := o7'.bs
      have F7 := hid (fun k e => Nat.le_trans z6 (f7 k e))
      clear z6
      have q0 := row_news o7 0 _ rfl
      have q1 := row_news o7 1 _ rfl
      have q2 := row_news o7 2 _ rfl
      have O7 := hid o7'
      clear HW b7 o7 o7' f7 TX s7
      go_wp2
      refine wp_loop_rounds 2 ?_
      rw [rounds_succ]
      obtain ⟨S8, hS8⟩ : ∃ S, S = w7.heap.size := ⟨_, rfl⟩
      obtain ⟨w8, hw8⟩ : ∃ x, x = w7.alloc (.cells #[.string kk, .slice A7 (tx j).row.length m7, .bool false] 209) := ⟨_, rfl⟩
      have b8 : Below w7.heap.size w7 w8 := by rw [hw8]; exact below_alloc (Below.refl _ _) _
      have g8 : w8.heap[S8]? = some (.cells #[.string kk, .slice A7 (tx j).row.length m7, .bool false] 209 (0, 0)) := by rw [hw8, hS8]; exact heap_alloc_new _ _
      replace FA6 := hid (FA6.out.below b8)
      replace B6 := hid (below_then B6.out b8)
      replace O7 := hid (O7.out.below b8)
      have W8 := hid (And.intro hw8 hS8)
      have G8 := hid g8
      have s0 := cell_at g8 (i := 0) rfl
      have mp := FA6.out.map
      clear hw8 hS8 b8 g8
      go_upto_region 17 with fail
      rw [← W8.out.1, ← W8.out.2]
      go_wp2_with (at_mapUpdate; refine wpList_put rfl (.tmp 72) (.tmp 74) (.const (.bool true)) 193 rfl rfl Q _ _ (.string kk) (.bool true) rfl rfl rfl (run_put (k := .string kk) Tryz.underlying193 Tryz.underlying9 trivial mp KM.out _) ?_)
      intro w9 p1 p2
      have k9 : KT [] [Q] [] w8 w9 := (KT.refl [] [Q] [] w8).of_map p2 ⟨_, _, mp⟩ (.head _)
      have FA9 := hid (FA6.out.maps (jq' := j + 1) k9 (by rw [← keysE_next, ← HKK.out]; exact p1))
      have B9 := hid (B6.out.grown p2 B6.out.size (fun k e => by cases e; exact FA6.out.fr.2.2))
      have O9 := hid (O7.out.keeps k9 (by decide) (fun _ _ h => by cases h))
      have G9 := hid (k9.cells G8.out (by decide))
      clear s0 q0 q1 q2
      have s0 := cell_at G9.out (i := 0) rfl
      have s1 := cell_at G9.out (i := 1) rfl
      have s2 := cell_at G9.out (i := 2) rfl
      have d1 := cell_at FA9.out.bat (i := 1) (v := .slice Vw j cw) rfl
      have e1 := free_at FA9.out.bat 1
      obtain ⟨i0, hi, hz0, hz1, hz2⟩ := info_parts infoW
      have oW := FA9.out.wrs.alloc (.cells #[.string kk, .slice A7 (tx j).row.length m7, .bool false] 209)
      clear p1 p2 k9 mp FA6 B6 O7 G8
      go_wp2_with (at_builtin; refine wpList_app rfl (.tmp 76) (.tmp 78) 102 rfl 209 i0 (.agg #[.string ⟨#[]⟩, .slice none 0 0, .bool false]) 3 48 Tryz.underlying102 hi hz0 hz1 hz2 rfl (by decide) _ j (wcells ws) rfl oW (some ⟨w9.heap.size, 0, none⟩) 1 1 [.string kk, .slice A7 (tx j).row.length m7, .bool false] rfl rfl (fun e => by cases e) (by intro ad e j u hu; cases e; rw [add_plain]; exact cell_at (heap_alloc_new _ _) (by simpa using hu)) (by intro u hu; simp at hu; rcases hu with rfl | rfl | rfl <;> rfl) (by unfold maxLen; omega) (by omega) ?_)
      intro A10 c10 w10 m1 m2 m3
      have k10 : KT [209] [] [] w9 w10 := ((KT.refl _ _ _ w9).alloc _).grown m2 (fun k e _ => by
        obtain ⟨cur, hc⟩ := own_typed FA9.out.wrs e
        exact ⟨_, hc, .inl (.head _)⟩)
      have gB10 := k10.cells FA9.out.bat (by decide)
      have gR10 := k10.cells FA9.out.res (by decide)
      obtain ⟨w11, hw11⟩ : ∃ x, x = w10.setCell ⟨Bb, 1, none⟩ (.slice A10 (j + 1) c10) := ⟨_, rfl⟩
      have kb : KT [104] [] [] w10 w11 := by rw [hw11]; exact (KT.refl _ _ _ w10).set gB10 (.head _) _
      have k11 : KT [209, 104] [] [] w9 w11 := (k10.mono (by decide) (fun _ h => h) (fun _ h => h)).then kb (by decide) (fun _ h _ => h) (fun _ h _ => h)
      have gB11 : w11.heap[Bb]? = some (.cells #[.int .i64 nw, .slice A10 (j + 1) c10] 104 (0, 0)) := by rw [hw11, heap_set gB10]; rfl
      have gR11 : w11.heap[R4]? = some (.cells #[.int .i64 0, .slice none 0 0] 104 (0, 0)) := by
        rw [hw11, heap_setCell_other w10 ⟨Bb, 1, none⟩ R4 _ (by have := QQ.out.1; have := QQ.out.2.1; show R4 ≠ Bb; omega)]
        exact gR10
      have o11 : w11.ownsRow 0 209 3 (.slice A10 (j + 1) c10) (j + 1) (wcells (ws ++ [(kk, .slice A7 (tx j).row.length m7)])) := by rw [wcells_append]; exact own_keeps m1 kb (by decide)
      have r11 : RowsOk w11 tx (ws ++ [(kk, .slice A7 (tx j).row.length m7)]) := by rw [HKK.out]; exact RowsOk.push (FA9.out.rows.keeps k11 (by decide)) WL.out (O9.out.keeps k11 (by decide) (fun _ _ h => by cases h))
      have B10 := (B9.out.alloc B9.out.size (.cells #[.string kk, .slice A7 (tx j).row.length m7, .bool false] 209)).grown m2 (by have := B9.out.size; simp; omega) FA9.out.fw
      have HX := hid (show (ws ++ [(kk, Value.slice A7 (tx j).row.length m7)]).length = j + 1 ∧ FormAt w.heap.size w11 tx R4 Bb Q nw A6 (j + 1) c6 A10 (j + 1) c10 (ws ++ [(kk, .slice A7 (tx j).row.length m7)]) (j + 1) ∧ Below w.heap.size w w11 from
        ⟨by rw [List.length_append, WL.out]; rfl, FA9.out.writes k11 gR11 gB11 o11 r11 (fun k e => by
          rcases m3 with m3 | m3
          · rw [m3] at e; exact FA9.out.fw k e
          · rw [m3] at e; simp at e; have := B9.out.size; omega) (fun x hx k e => by
          rcases List.mem_append.1 hx with hx | hx
          · exact FA9.out.fz x hx k e
          · obtain rfl := List.mem_singleton.1 hx
            exact F7.out k e), by rw [hw11]; exact B10.setCell FA9.out.fr.2.1 _⟩)
      have W11 := hid hw11
      have h1 := cell_at gB10 (i := 1) (v := .slice Vw j cw) rfl
      have h2 := free_at gB10 1
      clear hw11 k10 gB10 gR10 kb k11 gB11 gR11 o11 r11 B10 m1 m2 m3 s0 s1 s2 d1 e1 oW FA9 B9 O9 G9 hi hz0 hz1 hz2
      go_upto_region 19 with fail
      rw [← W11.out]
      go_wp2
      rw [rounds_succ]
      go_wp2
      go_roundw
      case rel => exact ⟨j + 1, c6, c10, A6, A10, _, by omega, by go_num, rfl, HX⟩
      case measure => simp [intOf]; omega
    · obtain rfl : j = n := by omega
      have t1 : decide ((j : Int) < (j : Int)) = false := by simp
      obtain ⟨hwl, FA, hb⟩ := HH.out
      obtain ⟨hL, hO, hS, hSM, hids, hci, hof, htx, hss, hdi, hk, hbe⟩ := FX.out
      have hw := FA.wrs
      obtain ⟨g, rfl⟩ := slice_of hw (by omega)
      have SF : Hid (Calls Tryz.prog 201 #[.slice (some ⟨g, 0, none⟩) j cw, .func (.func 202) #[] #[]] wr fun e w' => e = .returned (.tuple #[]) ∧ Below wr.heap.size wr w') := hid (by
        match j, ws, hwl, hn, FA.rows, hw, hbe with
        | 1, [x], _, _, _, _, _ =>
          refine sortf_one.mono ?_
          rintro e w' ⟨rfl, rfl⟩
          exact ⟨rfl, Below.refl _ _⟩
        | 2, [x, y], _, _, hr, hw, hbe =>
          have r0 := hr 0 (by simp)
          have r1 := hr 1 (by simp)
          simp only [List.getElem_cons_zero, List.getElem_cons_succ] at r0 r1
          obtain ⟨k0, v0⟩ := x
          obtain ⟨k1, v1⟩ := y
          obtain ⟨rfl, o0⟩ := r0
          obtain ⟨rfl, o1⟩ := r1
          obtain ⟨A0, c0, rfl, -⟩ := o0.bs
          obtain ⟨A1, c1, rfl, -⟩ := o1.bs
          exact sortf_two (hbe rfl) hw
        | 0, _, _, h, _, _, _ => omega
        | j + 3, _, _, h, _, _, _ => omega)
      have hB := FA.bat
      have HF := hid (And.intro hwl (And.intro FA hb))
      have d1 := cell_at hB (i := 1) (v := .slice (some ⟨g, 0, none⟩) j cw) rfl
      clear hL hO hS hSM hids hci hof htx hss hdi hk hbe hw hB FA hb hwl HH
      go_wp2_with fail
      refine SF.out.mono ?_
      rintro e w4 ⟨rfl, b4⟩
      have FA := hid (HF.out.2.1.below b4)
      have B4 := hid (below_then HF.out.2.2 b4)
      have WL := hid HF.out.1
      clear SF HF b4 d1
      have d0 := cell_at FA.out.bat (i := 0) (v := .int .i64 nw) rfl
      have d1 := cell_at FA.out.bat (i := 1) (v := .slice (some ⟨g, 0, none⟩) j cw) rfl
      have r0 := cell_at FA.out.res (i := 0) (v := .int .i64 0) rfl
      have r1 := cell_at FA.out.res (i := 1) (v := .slice none 0 0) rfl
      have q0 := free_at FA.out.res 0
      have q1 := free_at FA.out.res 1
      obtain ⟨w5, hw5⟩ : ∃ x, x = (w4.setCell ⟨R4, 0, none⟩ (.int .i64 nw)).setCell ⟨R4, 1, none⟩ (.slice (some ⟨g, 0, none⟩) j cw) := ⟨_, rfl⟩
      have k5 : KT [104] [] [] w4 w5 := by rw [hw5]; exact ((KT.refl _ _ _ w4).set FA.out.res (.head _) _).set FA.out.res (.head _) _
      have g5 : w5.heap[R4]? = some (.cells #[.int .i64 nw, .slice (some ⟨g, 0, none⟩) j cw] 104 (0, 0)) := by rw [hw5, heap_set (heap_set FA.out.res)]; rfl
      obtain ⟨go, rfl⟩ := slice_of FA.out.out (by omega)
      have FF := hid (show ∃ g' c go' co' ws', (Value.tuple #[.agg #[.int .i64 nw, .slice (some ⟨g, 0, none⟩) j cw], .slice (some ⟨go, 0, none⟩) j co]) = .tuple #[.agg #[.int .i64 nw, .slice (some ⟨g', 0, none⟩) j c], .slice (some ⟨go', 0, none⟩) j co'] ∧ w5.ownsRow 0 209 3 (.slice (some ⟨g', 0, none⟩) j c) j (wcells ws') ∧ ws'.length = j ∧ RowsOk w5 tx ws' ∧ w5.ownsRow 0 24 1 (.slice (some ⟨go', 0, none⟩) j co') j (List.replicate j (.int .i64 0)) ∧ (∀ x ∈ ws', ∀ k, x.2.ownBlock = some k → w.heap.size ≤ k) ∧ Below w.heap.size w w5 from
        ⟨g, cw, go, co, ws, rfl, own_keeps FA.out.wrs k5 (by decide), WL.out, FA.out.rows.keeps k5 (by decide), own_keeps FA.out.out k5 (by decide), FA.out.fz, by rw [hw5]; exact (B4.out.setCell FA.out.fr.1 _).setCell FA.out.fr.1 _⟩)
      have W5 := hid hw5
      have G5 := hid g5
      clear hw5 k5 g5 FA B4 WL
      go_wp2
      rw [← W5.out]
      refine bodyPost_ret (ret_cell_tmp rfl rfl G5.out Tryz.underlying104 rfl infBatch) rfl ?_
      obtain ⟨g', c, go', co', ws', e', q⟩ := FF.out
      exact ⟨g', c, go', co', ws', by rw [← e']; rfl, q⟩
def lastK (tx : Nat → TxR) : Nat → ByteArray
  | 0 => ⟨#[]⟩
  | j + 1 => (tx j).k
theorem wcells_get : ∀ (ws : List (ByteArray × Value)) (m : Nat) (h : m < ws.length), (wcells ws)[m * 3]? = some (.string (ws[m]).1) ∧ (wcells ws)[m * 3 + 1]? = some (ws[m]).2 ∧ (wcells ws)[m * 3 + 2]? = some (.bool false)
  | x :: l, 0, _ => ⟨rfl, rfl, rfl⟩
  | x :: l, m + 1, h => by
    obtain ⟨h1, h2, h3⟩ := wcells_get l m (by simpa using h)
    have e : ∀ i, (wcells (x :: l))[(m + 1) * 3 + i]? = (wcells l)[m * 3 + i]? := fun i => by
      rw [show (m + 1) * 3 + i = m * 3 + i + 1 + 1 + 1 by omega]
      rfl
    exact ⟨(e 0).trans h1, (e 1).trans h2, (e 2).trans h3⟩
structure BatAt (w : World) (tx : Nat → TxR) (n g c : Nat) (ws : List (ByteArray × Value)) : Prop where
  wrs : w.ownsRow 0 209 3 (.slice (some ⟨g, 0, none⟩) n c) n (wcells ws)
  len : ws.length = n
  rows : RowsOk w tx ws
  n1 : 1 ≤ n ∧ n ≤ 2
  keys : ∀ m, m < n → 1 ≤ (tx m).k.size ∧ (tx m).k.size ≤ 1000
  lens : ∀ m, m < n → (tx m).row.length ≤ 1000
  beh : ∀ m, m < n → Behind (tx m).k (lastK tx m)
theorem BatAt.keeps {w w' : World} {ts : List TypeId} {ms rs : List Nat} {tx : Nat → TxR} {n g c : Nat} {ws : List (ByteArray × Value)} (h : BatAt w tx n g c ws) (hk : KT ts ms rs w w') (ht : 5 ∉ ts ∧ 209 ∉ ts) (hr : ∀ m (hm : m < ws.length), ∀ k, (ws[m]).2.ownBlock = some k → k ∉ rs) : BatAt w' tx n g c ws :=
  ⟨own_keeps h.wrs hk ⟨ht.2, by decide⟩, h.len, fun m hm => ⟨(h.rows m hm).1, (h.rows m hm).2.keeps hk ht.1 (hr m hm)⟩, h.n1, h.keys, h.lens, h.beh⟩
theorem BatAt.below {w w' : World} {tx : Nat → TxR} {n g c : Nat} {ws : List (ByteArray × Value)} (h : BatAt w tx n g c ws) (hb : Below w.heap.size w w') : BatAt w' tx n g c ws := h.keeps (KT.of_below (ts := []) (ms := []) (rs := []) hb) (by decide) (fun _ _ _ _ h => by cases h)
theorem BatAt.at_ {w : World} {tx : Nat → TxR} {n g c : Nat} {ws : List (ByteArray × Value)} (h : BatAt w tx n g c ws) {m : Nat} (hm : m < n) : ∃ A c', w.cell? ⟨g, m * 3, none⟩ = some (.string (tx m).k) ∧ w.cell? ⟨g, m * 3 + 1, none⟩ = some (.slice A (tx m).row.length c') ∧ w.cell? ⟨g, m * 3 + 2, none⟩ = some (.bool false) ∧ OwnB w (.slice A (tx m).row.length c') (tx m).row ∧ BSA w A c' (tx m).row := by
  have hl : m < ws.length := by rw [h.len]; exact hm
  obtain ⟨e1, e2, e3⟩ := wcells_get ws m hl
  obtain ⟨k1, o1⟩ := h.rows m hl
  obtain ⟨A, c', e4, b4⟩ := o1.bs
  rw [k1] at e1
  rw [e4] at e2 o1
  exact ⟨A, c', row_news h.wrs _ _ e1, row_news h.wrs _ _ e2, row_news h.wrs _ _ e3, o1, b4⟩
theorem BatAt.cap {w : World} {tx : Nat → TxR} {n g c : Nat} {ws : List (ByteArray × Value)} (h : BatAt w tx n g c ws) : n ≤ c ∧ c ≤ 9223372036854775807 := by
  have := own_cap h.wrs (by have := h.n1; omega)
  unfold maxLen at this
  omega
set_option maxHeartbeats 800000 in
theorem fits_any {w : World} {k last : ByteArray} {A : Option Addr} {n c : Nat} (hb : Behind k last) (hk : 1 ≤ k.size ∧ k.size ≤ 1000) (hn : n ≤ 1000) : Calls Tryz.prog 169 #[.agg #[.string k, .slice A n c, .bool false], .string last] w fun e w' => e = .returned (.bool true) ∧ Below w.heap.size w w' := by
  obtain ⟨h1, h2⟩ := hb
  have t1 : decide ((k.size : Int) ≥ 1) = true := by simp; omega
  have t2 : decide ((k.size : Int) ≤ 4000) = true := by simp; omega
  have t3 : decide ((n : Int) ≤ 4000) = true := by simp; omega
  clear hk hn
  go_enter Tryz.func169, Tryz.ntmps169
  go_wp2
  go_ret
  exact ⟨rfl, by go_grown⟩
set_option maxRecDepth 100000 in
set_option maxHeartbeats 3200000 in
theorem right_any {w : World} {tx : Nat → TxR} {n g c : Nat} {N : Int} {ws : List (ByteArray × Value)} (h : BatAt w tx n g c ws) (hN : 1 ≤ N) : Calls Tryz.prog 119 #[.agg #[.int .i64 N, .slice (some ⟨g, 0, none⟩) n c]] w fun e w' => e = .returned (.bool true) ∧ Below w.heap.size w w' := by
  obtain ⟨Z, hZ⟩ : ∃ x, x = w.heap.size := ⟨_, rfl⟩
  obtain ⟨w1, hw1⟩ : ∃ x, x = w.alloc (.cells #[.int .i64 N, .slice (some ⟨g, 0, none⟩) n c] 104) := ⟨_, rfl⟩
  have b1 : Below w.heap.size w w1 := by rw [hw1]; exact below_alloc (Below.refl _ _) _
  have g1 : w1.heap[Z]? = some (.cells #[.int .i64 N, .slice (some ⟨g, 0, none⟩) n c] 104 (0, 0)) := by rw [hw1, hZ]; exact heap_alloc_new _ _
  have HB := hid (And.intro (h.below b1) (And.intro g1 b1))
  have W1 := hid (And.intro hw1 hZ)
  have d1 := cell_at g1 (i := 1) (v := .slice (some ⟨g, 0, none⟩) n c) rfl
  obtain ⟨hc1, hc2⟩ := h.cap
  have n1 := h.n1
  clear h hw1 hZ b1 g1
  go_enter Tryz.func119, Tryz.ntmps119
  go_upto_region 2 with fail
  rw [← W1.out.1, ← W1.out.2]
  go_wp2
  go_loopw [3, 9] (fun v i wr => ∃ j : Nat, j ≤ n ∧ i = .int .i64 j ∧ v = .string (lastK tx j) ∧ Hid (Below w1.heap.size w1 wr)) (fun _ i _ => n - (intOf i).toNat)
  case atStart => exact ⟨0, by omega, rfl, rfl, hid (Below.refl _ _)⟩
  case round =>
    clear d1
    obtain ⟨j, hj, rfl, rfl, hb⟩ := hrel
    have HR := hid (below_heap hb.out HB.out.2.1)
    by_cases hlt : j < n
    · have t1 : decide ((j : Int) < (n : Int)) = true := by simp; omega
      obtain ⟨A, c', q0, q1, q2, -, -⟩ := (HB.out.1.below hb.out).at_ hlt
      have hf := hid (fun wz : World => fits_any (w := wz) (A := A) (c := c') (HB.out.1.beh j hlt) (HB.out.1.keys j hlt) (HB.out.1.lens j hlt))
      obtain ⟨S8, hS8⟩ : ∃ S, S = wr.heap.size := ⟨_, rfl⟩
      obtain ⟨rl, hrl⟩ : ∃ x, x = (tx j).row.length := ⟨_, rfl⟩
      obtain ⟨kk, hkk⟩ : ∃ x, x = (tx j).k := ⟨_, rfl⟩
      rw [← hrl] at q1 hf
      rw [← hkk] at q0 hf
      obtain ⟨w8, hw8⟩ : ∃ x, x = wr.alloc (.cells #[.string kk, .slice A rl c', .bool false] 209) := ⟨_, rfl⟩
      have b8 : Below wr.heap.size wr w8 := by rw [hw8]; exact below_alloc (Below.refl _ _) _
      have g8 : w8.heap[S8]? = some (.cells #[.string kk, .slice A rl c', .bool false] 209 (0, 0)) := by rw [hw8, hS8]; exact heap_alloc_new _ _
      have B8 := hid (below_then hb.out b8)
      have G8 := hid g8
      have W8 := hid (And.intro hw8 (And.intro hS8 hkk))
      clear hw8 hS8 b8 g8 hrl hkk hb
      go_upto_region 5 with fail
      rw [← W8.out.1, ← W8.out.2.1]
      have s0 := cell_at G8.out (i := 0) rfl
      have s1 := cell_at G8.out (i := 1) rfl
      have s2 := cell_at G8.out (i := 2) rfl
      go_wp2_with fail
      refine (hf.out _).mono ?_
      rintro e w9 ⟨rfl, b9⟩
      have G9 := below_heap b9 G8.out
      have B9 := hid (below_then B8.out b9)
      clear s0 s1 s2 q0 q1 q2 b9
      have s0 := cell_at G9 (i := 0) rfl
      clear G9
      go_wp2
      go_roundw
      case rel => exact ⟨j + 1, hlt, by go_num, by rw [W8.out.2.2]; rfl, B9⟩
      case measure => simp [intOf]; omega
    · obtain rfl : j = n := by omega
      have t1 : decide ((j : Int) < (j : Int)) = false := by simp
      have t2 : decide (N ≥ 1) = true := by simp; omega
      have t3 : decide ((j : Int) ≥ 1) = true := by simp; omega
      have t4 : decide ((j : Int) ≤ 64) = true := by simp; omega
      have e0 := cell_at HR.out (i := 0) (v := .int .i64 N) rfl
      have e1 := cell_at HR.out (i := 1) (v := .slice (some ⟨g, 0, none⟩) j c) rfl
      go_wp2
      go_ret
      exact ⟨rfl, below_then HB.out.2.2 hb.out⟩
set_option maxHeartbeats 1600000 in
theorem number_own {w : World} {N m n c : Nat} {A : Option Addr} {l : List UInt8} (hl : l.length = N) (hR : OwnB w (.slice A N c) l) (hm : m ≤ 8) (hN : N ≤ 1000000000) :
    Calls Tryz.prog 156 #[.slice A N c, .int .u64 (n : Int), .int .i64 (m : Int)] w fun e w' => ∃ A' c', e = .returned (.slice A' (N + m) c') ∧ OwnB w' (.slice A' (N + m) c') (l ++ numBytes n m) ∧ (∀ b, (Value.slice A' (N + m) c').ownBlock = some b → (Value.slice A N c).ownBlock = some b ∨ w.heap.size ≤ b) ∧ Keeps (fun k => (Value.slice A N c).ownBlock = some k) w w' := by
  have w0 : wrap64 ((m : Int) - 1) = (m : Int) - 1 := by unfold wrap64; omega
  have HL := hid hl
  have HR := hid hR
  clear hl hR
  go_enter Tryz.func156, Tryz.ntmps156
  go_wp2
  go_loopw [0, 7] (fun v i wr => ∃ (k : Nat) (A' : Option Addr) (c' : Nat), k ≤ m ∧ i = .int .i64 ((m : Int) - 1 - (k : Int)) ∧ v = .slice A' (N + k) c' ∧ Hid (OwnB wr (.slice A' (N + k) c') (l ++ (numBytes n m).take k) ∧ (∀ b, (Value.slice A' (N + k) c').ownBlock = some b → (Value.slice A N c).ownBlock = some b ∨ w.heap.size ≤ b) ∧ Keeps (fun k => (Value.slice A N c).ownBlock = some k) w wr)) (fun _ i _ => (intOf i + 1).toNat)
  case atStart => exact ⟨0, A, c, by omega, by simp, rfl, hid ⟨by simpa using HR.out, fun b e => .inl e, Keeps.refl _ _⟩⟩
  case round =>
    clear HR
    obtain ⟨k, A', c', hk, rfl, rfl, hh⟩ := hrel
    by_cases hlt : k < m
    · have tk : decide ((m : Int) - 1 - (k : Int) ≥ 0) = true := by simp; omega
      obtain ⟨sh, hsh⟩ : ∃ s, s = 8 * (m - 1 - k) := ⟨_, rfl⟩
      have hs64 : sh < 64 := by omega
      have e1 : 8 * ((m : Int) - 1 - (k : Int)) = (sh : Int) := by omega
      have w3 : wrap64 (sh : Int) = (sh : Int) := by unfold wrap64; omega
      have w4 : wrap64 ((m : Int) - 1 - (k : Int) - 1) = (m : Int) - 1 - (k : Int) - 1 := by unfold wrap64; omega
      have HN := numBytes_next n m k hlt
      rw [← hsh] at HN
      have Bf := byte_div n sh
      obtain ⟨x, hx⟩ : ∃ x, x = UInt8.ofNat (n / 2 ^ sh) := ⟨_, rfl⟩
      rw [← hx] at HN Bf
      have HN' := hid HN
      have hl2 : (l ++ (numBytes n m).take k).length = N + k := by rw [List.length_append, List.length_take, numBytes_length, HL.out]; omega
      have hRa := hh.out.1.below (below_alloc (Below.refl _ wr) (.cells #[.int .u8 (x.toNat : Int)] 5))
      unfold OwnB at hRa
      obtain ⟨X, hX⟩ : ∃ X, X = l ++ (numBytes n m).take k := ⟨_, rfl⟩
      rw [← hX] at hRa hl2
      have HX := hid hX
      have HL2 := hid hl2
      clear HN hx hsh hX hl2
      go_wp2_with (at_builtin; refine wpList_app8 36 5 Tryz.underlying36 infU8' rfl (.tmp 14) (.tmp 20) rfl _ X rfl hRa (some ⟨wr.heap.size, 0, none⟩) 1 [x] rfl (lit_bsa wr x) (by rw [HL2.out]; simp; omega) ?_)
      rw [HL2.out]
      intro R' c2 w' h1 h2 h3
      have hB := hid (show OwnB w' (.slice R' (N + (k + 1)) c2) (l ++ (numBytes n m).take (k + 1)) ∧ (∀ b, (Value.slice R' (N + (k + 1)) c2).ownBlock = some b → (Value.slice A N c).ownBlock = some b ∨ w.heap.size ≤ b) ∧ Keeps (fun k => (Value.slice A N c).ownBlock = some k) w w' from
        ⟨by
          unfold OwnB
          rw [HN'.out, ← List.append_assoc, ← HX.out, List.length_append, HL2.out]
          exact h1, fun b e => by
          rcases h3 with h3 | h3
          · exact hh.out.2.1 b (h3 ▸ e)
          · have e' : (Value.slice R' (N + k + 1) c2).ownBlock = some b := e
            rw [h3] at e'
            simp at e'
            have := hh.out.2.2.size
            exact .inr (by omega), (hh.out.2.2.alloc _).grown h2 (fun b e hlt => by
            rcases hh.out.2.1 b e with q | q
            · exact q
            · omega)⟩)
      clear h1 h2 h3 hRa
      go_wp2
      exact ⟨⟨k + 1, R', c2, by omega, by go_num, rfl, hB⟩, by simp [intOf]; omega⟩
    · obtain rfl : k = m := by omega
      have tk : decide ((k : Int) - 1 - (k : Int) ≥ 0) = false := by simp; omega
      have hF := hh.out
      rw [List.take_of_length_le (by rw [numBytes_length]; exact Nat.le_refl _)] at hF
      have FF := hid hF
      clear hF hh
      go_wp2
      go_ret
      exact ⟨A', c', rfl, FF.out⟩
set_option maxHeartbeats 1600000 in
theorem blob_own {w : World} {N m c d : Nat} {A Q : Option Addr} {l q : List UInt8} (hl : l.length = N) (hR : OwnB w (.slice A N c) l) (hq : q.length = m) (hQ : BSA w Q d q) (hne : ∀ ad, Q = some ad → (Value.slice A N c).ownBlock ≠ some ad.block) (hN : N ≤ 1000000) (hm : m ≤ 1000000) :
    Calls Tryz.prog 157 #[.slice A N c, .slice Q m d] w fun e w' => ∃ A' c' l', e = .returned (.slice A' (N + 2 + m) c') ∧ l'.length = N + 2 + m ∧ OwnB w' (.slice A' (N + 2 + m) c') l' ∧ (∀ b, (Value.slice A' (N + 2 + m) c').ownBlock = some b → (Value.slice A N c).ownBlock = some b ∨ w.heap.size ≤ b) ∧ Keeps (fun k => (Value.slice A N c).ownBlock = some k) w w' := by
  have H := hid (number_own (n := m) (m := 2) hl hR (by omega) (by omega))
  have HQ := hid (And.intro hQ (And.intro hne hq))
  have HL := hid hl
  have hw : (m : Int) % 18446744073709551616 = (m : Int) := by omega
  clear hR hQ hne hl
  subst hq
  go_enter Tryz.func157, Tryz.ntmps157
  go_wp2_with fail
  refine H.out.mono ?_
  rintro e w1 ⟨A1, c1, rfl, o1, f1, k1⟩
  have q1 := hid (HQ.out.1.keeps k1 (fun ad e => HQ.out.2.1 ad e))
  have O1 := hid (And.intro o1 (And.intro f1 k1))
  obtain ⟨X, hX⟩ : ∃ X, X = l ++ numBytes q.length 2 := ⟨_, rfl⟩
  have lX : X.length = N + 2 := by rw [hX, List.length_append, numBytes_length, HL.out]
  have oX := o1
  unfold OwnB at oX
  rw [← hX] at oX
  have LX := hid lX
  clear H o1 f1 k1 hX lX HQ hw
  go_wp2_with (at_builtin; refine wpList_app8 36 5 Tryz.underlying36 infU8' rfl (.tmp 9) (.tmp 10) rfl _ X rfl oX Q d q rfl q1.out (by rw [LX.out]; omega) ?_)
  rw [LX.out]
  intro A2 c2 w2 h1 h2 h3 h4
  have FF := hid (show ∃ l' : List UInt8, l'.length = N + 2 + q.length ∧ OwnB w2 (.slice A2 (N + 2 + q.length) c2) l' ∧ (∀ b, (Value.slice A2 (N + 2 + q.length) c2).ownBlock = some b → (Value.slice A N c).ownBlock = some b ∨ w.heap.size ≤ b) ∧ Keeps (fun k => (Value.slice A N c).ownBlock = some k) w w2 from
    ⟨X ++ q, by rw [List.length_append, LX.out], by unfold OwnB; rw [List.length_append, LX.out]; exact h1, fun b e => by
      rcases h3 with h3 | h3
      · rw [h3] at e; exact O1.out.2.1 b e
      · rw [h3] at e; simp at e; have := O1.out.2.2.size; exact .inr (by omega), O1.out.2.2.grown h2 (fun b e hlt => by
      rcases O1.out.2.1 b e with q | q
      · exact q
      · omega)⟩)
  clear h1 h2 h3 h4 oX
  go_wp2
  go_ret
  obtain ⟨l', z⟩ := FF.out
  exact ⟨A2, c2, l', rfl, z⟩
end Go.Proofs.YtnidgljkbmceaaaGreatDoor
