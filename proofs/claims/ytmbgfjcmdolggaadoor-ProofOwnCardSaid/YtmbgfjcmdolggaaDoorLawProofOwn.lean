/- ProofOwn: what Build and Decode hand back is the caller's own. -/
import Derived.Test.YtmbgfjcmdolggaaDoorPBuild
import Derived.Test.YtmbgfjcmdolggaaDoorMG
set_option linter.unusedVariables false
set_option linter.unusedSimpArgs false
namespace Go.Proofs.YtmbgfjcmdolggaaDoor
open Go.RowKit PrintLast

theorem good_nil (f : Nat) : Good f [] := ⟨List.Pairwise.nil, fun x hx => by cases hx⟩
theorem good_one (f : Nat) (x : Itm) : Good f [x] := ⟨List.pairwise_singleton _ _, fun a ha b hb i _ => by
  rw [List.mem_singleton] at ha hb
  rw [ha, hb]⟩
def keyK : ByteArray := ⟨#[107]⟩
theorem put_new {w : World} (hT : Table w) {A : Option Addr} {c n : Nat} {row : List UInt8} (hn : row.length = n) (hr : n ≤ 1000000) (hA : BSA w A c row) :
    Calls Tryd.prog 24 #[.pointer none, .string ⟨#[107]⟩, .slice A n c] w (Grew w (.leaf ⟨keyK, row⟩)) := by
  have := Put_any (w := w) (v := .pointer none) (l := []) (key := keyK) hT (by rw [treeF_nil]; exact Tree.nil w) (by decide) hn hr hA (good_nil 256) (good_one 256 _) (fun y hy => by cases hy) (by simp)
  rwa [show putI [] ⟨keyK, row⟩ = [⟨keyK, row⟩] from rfl, treeF_one] at this
def ownP (row : List UInt8) : Prf := ⟨[], 1, ⟨#[]⟩, row⟩
/-- The proof that Build hands back of the tree of one leaf. -/
def OneP (S : Nat) (row : List UInt8) (n : Nat) (e : Ending) (w' : World) : Prop := ∃ A c B d, e = .returned (.agg #[.slice A 0 c, .int .u8 1, .string ⟨#[]⟩, .slice B n d]) ∧ Txt w' S A c [] ∧ Row w' S B d row
theorem build_one {w : World} (hT : Table w) {N : Nat} (hN : N ≤ w.heap.size) {v : Value} {row : List UInt8} {n : Nat} (hn : row.length = n) (hb : n ≤ 1000000) (hv : TreeAt w N v (.leaf ⟨keyK, row⟩)) :
    Calls Tryd.prog 25 #[v, .string ⟨#[107]⟩] w fun e w' => OneP w.heap.size row n e w' ∧ Below w.heap.size w w' := by
  refine (build_tree (key := keyK) hT (hv.raise hN) (by decide) (by simp [Tr.ht]) (by show row.length ≤ 1000000; omega)).mono ?_
  rintro e w' ⟨A, c, B, d, rfl, h1, h2, h3⟩
  have hb : buildT (.leaf ⟨keyK, row⟩) keyK = ownP row := by
    unfold buildT ownP
    simp [walkT, endT]
  rw [hb] at h1 h2 ⊢
  refine ⟨⟨A, c, B, d, ?_, h1, h2⟩, h3⟩
  rw [← hn]
  rfl
theorem own_fits {row : List UInt8} (h : row.length ≤ 4000) : Fits (ownP row) := ⟨(fun s hs => absurd hs (by simp [ownP])), (by simp [ownP]), (by show (1 : UInt8).toNat ≤ 2; decide), (by show (0 : Nat) ≤ 4000; omega), h, fun _ => rfl, (fun h => absurd (show (1 : UInt8) = 0 from h) (by decide))⟩
theorem enc_own {w : World} {A B : Option Addr} {c d n : Nat} {row : List UInt8} (hn : row.length = n) (hA : TxtAt w A []) (hB : BSA w B d row) (h : n ≤ 4000) :
    Calls Tryd.prog 14 #[.agg #[.slice A 0 c, .int .u8 1, .string ⟨#[]⟩, .slice B n d]] w (Gave w (encB (ownP row))) :=
  enc_any (p := ownP row) (k := 0) rfl hn hA hB (fits_holds (own_fits (by omega)))
/-- What Decode gives back. -/
theorem dec_own {w : World} {A : Option Addr} {c m n : Nat} {row : List UInt8} (hn : row.length = n) (h : n ≤ 4000) (hm : (encB (ownP row)).length = m) (hA : BSA w A c (encB (ownP row))) :
    Calls Tryd.prog 15 #[.slice A m c] w fun e w' => ∃ A' c' B d, e = .returned (.tuple #[.agg #[.slice A' 0 c', .int .u8 1, .string ⟨#[]⟩, .slice B n d], .int .i64 0]) ∧ Row w' w.heap.size B d row ∧ Below w.heap.size w w' := by
  have hf := own_fits (row := row) (by omega)
  have hl := enc_length hf
  refine (dec_any hm hA (by omega)).mono ?_
  rintro e w' ⟨A1, c1, B1, d1, rfl, h1, h2, h3⟩
  rw [res_enc hf] at h1 h2 ⊢
  refine ⟨A1, c1, B1, d1, ?_, h2, h3⟩
  rw [← hn]
  rfl
/-- A row whose bytes are overwritten. -/
def Over (w0 : World) (A : Option Addr) (c n B : Nat) (wr : World) : Prop := (∃ l, l.length = n ∧ Row wr B A c l) ∧ Keeps (fun k => A = some ⟨k, 0, none⟩) w0 wr
theorem Over.place {w0 wr : World} {A : Option Addr} {c n B i : Nat} (h : Over w0 A c n B wr) (hi : i < n) : ∃ g v, A = some ⟨g, 0, none⟩ ∧ wr.cell? ⟨g, i, none⟩ = some v ∧ wr.frozen? ⟨g, i, none⟩ = false ∧ n ≤ c := by
  obtain ⟨⟨l, hl, hr⟩, _⟩ := h
  obtain ⟨g, rfl⟩ := hr.place (by omega)
  obtain ⟨cur, h1, h2, _⟩ := hr.heap
  have := hr.bsa.2.2.2 _ rfl i (by omega)
  rw [add_plain] at this
  exact ⟨g, _, rfl, this, free_at h1 i, by have := hr.bsa.1; omega⟩
theorem Over.set {w0 wr : World} {c n B g : Nat} (h : Over w0 (some ⟨g, 0, none⟩) c n B wr) (i : Nat) (b : UInt8) : Over w0 (some ⟨g, 0, none⟩) c n B (wr.setCell ⟨g, i, none⟩ (.int .u8 (b.toNat : Int))) := by
  obtain ⟨⟨l, hl, hr⟩, hk⟩ := h
  refine ⟨⟨l.set i b, by simpa using hl, hr.set i b⟩, hk.setCell (p := ⟨g, i, none⟩) (fun _ => rfl) _⟩
theorem Over.start {w : World} {A : Option Addr} {c n B : Nat} {l : List UInt8} (hn : l.length = n) (h : Row w B A c l) : Over w A c n B w := ⟨⟨l, hn, h⟩, Keeps.refl _ _⟩
theorem row_block {w : World} {B c g : Nat} {l : List UInt8} (h : Row w B (some ⟨g, 0, none⟩) c l) : B ≤ g := by
  obtain ⟨cur, _, _, h3⟩ := h.heap
  exact h3
theorem Over.base {w0 wr : World} {A : Option Addr} {c n B : Nat} (h : Over w0 A c n B wr) {g : Nat} (e : A = some ⟨g, 0, none⟩) : B ≤ g := by
  subst e
  obtain ⟨⟨l, hl, hr⟩, _⟩ := h
  exact row_block hr
theorem Over.bytes {w0 wr : World} {A : Option Addr} {c n B : Nat} (h : Over w0 A c n B wr) {g : Nat} (e : A = some ⟨g, 0, none⟩) : ∃ cur, wr.heap[g]? = some (.cells cur 5 (0, 0)) := by
  subst e
  obtain ⟨⟨l, hl, hr⟩, _⟩ := h
  obtain ⟨cur, h1, _⟩ := hr.heap
  exact ⟨cur, h1⟩
theorem bytes_self {w : World} {A B : Option Addr} {c d n : Nat} {l : List UInt8} (hn : l.length = n) (hx : BSA w A c l) (hy : BSA w B d l) :
    Calls Tryd.prog 19 #[.slice A n c, .slice B n d] w fun e w' => e = .returned (.bool true) ∧ Below w.heap.size w w' := by
  subst hn
  have := bytes_any hx hy
  rwa [show decide (l = l) = true by simp] at this
theorem Over.far {w0 wr : World} {A : Option Addr} {c n B : Nat} {l : List UInt8} (h : Over w0 A c n B wr) (h0 : Row w0 B A c l) {k : Nat} {cs : Array Value} {t : TypeId} {fr : Nat × Nat} (hk : w0.heap[k]? = some (.cells cs t fr)) (ht : t ≠ 5) : wr.heap[k]? = some (.cells cs t fr) :=
  h.2.heap hk (fun e => by
    subst e
    obtain ⟨cur, h1, _⟩ := h0.heap
    rw [h1] at hk
    simp at hk
    exact ht hk.2.1.symm)
theorem Over.upto {w0 wr : World} {A : Option Addr} {c n B : Nat} (h : Over w0 A c n B wr) {D : Nat} (hD : D ≤ B) (hw : D ≤ w0.heap.size) : Below D w0 wr :=
  below_of_keeps h.2 hw (fun k hk e => by have := h.base e; omega)
theorem own_at {A : Option Addr} {n c k : Nat} {w : World} {B : Nat} {l : List UInt8} (h : Row w B A c l) (e : (Value.slice A n c).ownBlock = some k) : A = some ⟨k, 0, none⟩ := by
  rcases h.form with rfl | ⟨g, rfl⟩
  · cases e
  · simp [Value.ownBlock] at e
    rw [e]
theorem Row.from0 {A : Option Addr} {c k : Nat} {w : World} {B : Nat} {l : List UInt8} (h : Row w B A c l) (e : A = some ⟨k, 0, none⟩) : B ≤ k := by
  subst e
  exact row_block h
theorem Row.keep {S : Nat → Prop} {A : Option Addr} {c : Nat} {w w' : World} {B : Nat} {l : List UInt8} (h : Row w B A c l) (hk : Keeps S w w') (hn : ∀ g, A = some ⟨g, 0, none⟩ → ¬ S g) : Row w' B A c l :=
  hk.own h (fun k e => hn k (own_at h e))

set_option maxRecDepth 100000 in
set_option maxHeartbeats 12800000 in
theorem pown_walk {w : World} (hT : Table w) {A : Option Addr} {c : Nat} {row : List UInt8} {b' : Int} (hr : BSA w A c row) (hb : (Lit.int .u8 b').wf = true) :
    Calls Tryd.prog 8 #[.slice A row.length c, .int .u8 b'] w fun e w' => e = .returned (.bool true) ∧ Below w.heap.size w w' := by
  obtain ⟨b, rfl⟩ : ∃ b8 : UInt8, b' = (b8.toNat : Int) := ⟨UInt8.ofNat b'.toNat, (u8_of_int hb).symm⟩
  obtain ⟨n, hn⟩ : ∃ n, n = row.length := ⟨_, rfl⟩
  rw [← hn]
  have HN := hid hn.symm
  have TT := hid hT
  have RR := hid hr
  have BB := hid (Below.refl w.heap.size w)
  clear hn hT hr hb
  by_cases h40 : 40 < n
  · have t1 : decide ((40 : Int) < (n : Int)) = true := by simp; omega
    go_enter Tryd.func8, Tryd.ntmps8
    have HC1 := hid (bare_any TT.out)
    go_wp2_with fail
    refine HC1.out.mono ?_
    rintro e w1 ⟨rfl, b1⟩
    clear HC1
    replace TT := hid (TT.out.below b1)
    replace RR := hid (RR.out.below b1)
    replace BB := hid (below_then BB.out b1)
    clear b1
    have HC2 := hid (bare_any TT.out)
    go_wp2_with fail
    refine HC2.out.mono ?_
    rintro e w2 ⟨rfl, b2⟩
    clear HC2
    replace BB := hid (below_then BB.out b2)
    clear b2
    go_wp2
    go_ret
    exact ⟨rfl, BB.out⟩
  · have t1 : decide ((40 : Int) < (n : Int)) = false := by simp; omega
    go_enter Tryd.func8, Tryd.ntmps8
    have TT0 := TT
    have RR0 := RR
    clear TT RR
    have BN := hid BB.out.size
    have HC1 := hid (bare_any (TT0.out.below BB.out))
    go_wp2_with fail
    refine HC1.out.mono ?_
    rintro e w1 ⟨rfl, b1⟩
    clear HC1
    replace BB := hid (below_then BB.out b1)
    clear b1
    have HC2 := hid (put_new (TT0.out.below BB.out) HN.out (by omega) (RR0.out.below BB.out))
    go_wp2_with fail
    refine HC2.out.mono ?_
    rintro e w2 ⟨v, rfl, t2, b2⟩
    clear HC2
    replace BB := hid (below_then BB.out b2)
    obtain ⟨N, hN⟩ : ∃ N, N = w2.heap.size := ⟨_, rfl⟩
    have V0 : TreeAt w2 N v (.leaf ⟨keyK, row⟩) := by rw [hN]; exact t2
    have VW := hid V0
    have NN := hid (Nat.le_of_eq hN)
    have WN := hid (show w.heap.size ≤ N by rw [hN]; exact BB.out.size)
    have B0 := hid (Below.refl N w2)
    clear V0 hN t2 b2
    have HC3 := hid (build_one (TT0.out.below BB.out) (Nat.le_trans NN.out B0.out.size) HN.out (by omega) (VW.out.move B0.out))
    go_wp2_with fail
    refine HC3.out.mono ?_
    rintro e w3 ⟨⟨A3, c3, A4, c4, rfl, x3, r4⟩, b3⟩
    clear HC3
    have N6 := hid (show N ≤ w3.heap.size from Nat.le_trans NN.out (Nat.le_trans B0.out.size b3.size))
    replace BB := hid (below_then BB.out b3)
    replace B0 := hid (B0.out.trans (b3.mono (Nat.le_trans NN.out B0.out.size)))
    have al := below_alloc (Below.refl _ w3) (.cells #[.slice A3 0 c3, .int .u8 1, .string ⟨#[]⟩, .slice A4 n c4] 30)
    have P6 := hid (heap_alloc_new w3 (.cells #[.slice A3 0 c3, .int .u8 1, .string ⟨#[]⟩, .slice A4 n c4] 30))
    have X3 := hid (x3.at_.below al)
    have R4 := hid (r4.below al)
    have C4 : Hid (∀ g, A4 = some ⟨g, 0, none⟩ → N ≤ g ∧ g < w3.heap.size) := hid (fun g e => by subst e; obtain ⟨cur, h1, _, h3⟩ := r4.heap; exact ⟨Nat.le_trans NN.out h3, lt_of_block h1⟩)
    replace BB := hid (below_then BB.out al)
    replace B0 := hid (B0.out.trans (al.mono (Nat.le_trans NN.out B0.out.size)))
    clear b3 al x3 r4
    go_upto_region 6 with fail
    obtain ⟨S6, hS6⟩ : ∃ S6, S6 = w3.heap.size := ⟨_, rfl⟩
    rw [← hS6] at P6 C4 N6 ⊢
    generalize w3.alloc (.cells #[.slice A3 0 c3, .int .u8 1, .string ⟨#[]⟩, .slice A4 n c4] 30) = W3 at *
    have G6 := hid hS6
    clear hS6
    obtain ⟨p0, p1, p2, p3, -, -, -, -⟩ := four P6.out
    have HC4 := hid (enc_own (c := c3) HN.out X3.out R4.out.bsa (by omega))
    go_wp2_with fail
    refine HC4.out.mono ?_
    rintro e w4 ⟨A5, c5, rfl, r5, b4⟩
    clear HC4
    have EL := enc_length (own_fits (row := row) (by have := HN.out; omega))
    obtain ⟨m, hm⟩ : ∃ m, m = (encB (ownP row)).length := ⟨_, rfl⟩
    rw [← hm] at EL ⊢
    have HM := hid hm.symm
    clear hm p0 p1 p2 p3
    have L6 : Hid (S6 < W3.heap.size) := hid (lt_of_block P6.out)
    replace P6 := hid (below_heap b4 P6.out)
    replace R4 := hid (R4.out.below b4)
    have L34 := hid b4.size
    replace BB := hid (below_then BB.out b4)
    replace B0 := hid (B0.out.trans (b4.mono (Nat.le_trans NN.out B0.out.size)))
    have R5 := hid r5
    clear b4 r5
    have HC5 := hid (dec_own HN.out (by omega) HM.out R5.out.bsa)
    go_wp2_with fail
    refine HC5.out.mono ?_
    rintro e w5 ⟨A7, c7, A8, c8, rfl, r8, b5⟩
    clear HC5
    replace P6 := hid (below_heap b5 P6.out)
    replace R4 := hid (R4.out.below b5)
    have L5 : Hid (∀ g, A5 = some ⟨g, 0, none⟩ → W3.heap.size ≤ g ∧ g < w4.heap.size) := hid (fun g e => by have h := R5.out; subst e; obtain ⟨cur, h1, _, h3⟩ := h.heap; exact ⟨h3, lt_of_block h1⟩)
    replace R5 := hid (R5.out.below b5)
    replace BB := hid (below_then BB.out b5)
    replace B0 := hid (B0.out.trans (b5.mono (Nat.le_trans NN.out B0.out.size)))
    have al := below_alloc (Below.refl _ w5) (.cells #[.slice A7 0 c7, .int .u8 1, .string ⟨#[]⟩, .slice A8 n c8] 30)
    have Q8 := hid (heap_alloc_new w5 (.cells #[.slice A7 0 c7, .int .u8 1, .string ⟨#[]⟩, .slice A8 n c8] 30))
    have R8 := hid (r8.below al)
    replace P6 := hid (below_heap al P6.out)
    replace R4 := hid (R4.out.below al)
    replace R5 := hid (R5.out.below al)
    replace BB := hid (below_then BB.out al)
    replace B0 := hid (B0.out.trans (al.mono (Nat.le_trans NN.out B0.out.size)))
    clear b5 r8 al
    go_upto_block 0 with fail
    obtain ⟨S8, hS8⟩ : ∃ S8, S8 = w5.heap.size := ⟨_, rfl⟩
    rw [← hS8] at Q8 ⊢
    clear hS8
    generalize w5.alloc (.cells #[.slice A7 0 c7, .int .u8 1, .string ⟨#[]⟩, .slice A8 n c8] 30) = W5 at *
    obtain ⟨gq, hgq⟩ := R5.out.place (by rw [HM.out]; omega)
    subst hgq
    have hgm : m ≤ c5 := by have := R5.out.bsa.1; rw [HM.out] at this; exact this
    have hgx := R5.out.bsa.2.1
    unfold maxLen at hgx
    have O0 := hid (Over.start HM.out R5.out)
    go_wp2
    go_loopw [10] (fun i wr => ∃ j : Nat, j ≤ m ∧ i = .int .i64 j ∧ Hid (Over W5 (some ⟨gq, 0, none⟩) c5 m W3.heap.size wr)) (fun i _ => m - (intOf i).toNat)
    case atStart => exact ⟨0, Nat.zero_le _, rfl, O0⟩
    case round =>
      obtain ⟨j, hj, rfl, OV⟩ := hrel
      by_cases hlt : j < m
      · have t2 : decide ((j : Int) < (m : Int)) = true := by simp; omega
        have t2' : decide (j < m) = true := by simp; omega
        obtain ⟨g, vo, hgg, hc, hf, hmc⟩ := OV.out.place hlt
        cases hgg
        have O1 := hid (OV.out.set j b)
        have hjc : j < c5 := by omega
        clear O0 OV
        go_wp2
        go_roundw
        case rel => exact ⟨j + 1, hlt, by go_num, O1⟩
        case measure => simp [intOf]; omega
      · obtain rfl : m = j := by omega
        have t2 : decide ((m : Int) < (m : Int)) = false := by simp
        have K1 := OV.out.2
        replace P6 := hid (OV.out.far R5.out P6.out (by decide))
        replace Q8 := hid (OV.out.far R5.out Q8.out (by decide))
        replace R4 := hid (R4.out.keep K1 (fun k e1 e2 => by have h1 := C4.out k e1; have h2 := L5.out k e2; have h3 := L6.out; omega))
        replace R8 := hid (R8.out.keep K1 (fun k e1 e2 => by have h1 := R8.out.from0 e1; have h2 := L5.out k e2; omega))
        replace BB := hid (BB.out.trans (OV.out.upto (D := w.heap.size) (by have h1 := WN.out; have h2 := L6.out; have := N6.out; omega) BB.out.size))
        replace B0 := hid (B0.out.trans (OV.out.upto (D := N) (by have h2 := L6.out; have := N6.out; omega) (Nat.le_trans NN.out B0.out.size)))
        clear K1 OV O0 hlt t2 hgm hgx R5 L5 hj
        obtain ⟨V6, hV6⟩ : ∃ V, V = wr := ⟨_, rfl⟩
        subst hV6
        have O2 := hid (Over.start HN.out R4.out)
        go_wp2
        go_loopw [11] (fun i wx => ∃ k : Nat, k ≤ n ∧ i = .int .i64 k ∧ wx.heap[S6]? = some (.cells #[.slice A3 0 c3, .int .u8 1, .string ⟨#[]⟩, .slice A4 n c4] 30 (0, 0)) ∧ Hid (Over V6 A4 c4 n w2.heap.size wx)) (fun i _ => n - (intOf i).toNat)
        case atStart => exact ⟨0, Nat.zero_le _, rfl, P6.out, O2⟩
        case round =>
          obtain ⟨k, hk, rfl, g6, OV⟩ := hrel
          obtain ⟨-, -, -, p3, -, -, -, -⟩ := four g6
          by_cases hlt : k < n
          · have t3 : decide ((k : Int) < (n : Int)) = true := by simp; omega
            have t3' : decide (k < n) = true := by simp; omega
            obtain ⟨g, vo, hgg, hc, hf, hmc⟩ := OV.out.place hlt
            subst hgg
            have O1 := hid (OV.out.set k b)
            have g6' := hid (O1.out.far R4.out P6.out (by decide))
            have hkc : k < c4 := by omega
            have hcm := R4.out.bsa.2.1
            unfold maxLen at hcm
            clear O2 OV g6
            go_wp2
            go_roundw
            case rel => exact ⟨k + 1, hlt, by go_num, g6'.out, O1⟩
            case measure => simp [intOf]; omega
          · obtain rfl : n = k := by omega
            have t3 : decide ((n : Int) < (n : Int)) = false := by simp
            have K1 := OV.out.2
            replace Q8 := hid (OV.out.far R4.out Q8.out (by decide))
            replace R8 := hid (R8.out.keep K1 (fun k e1 e2 => by have h1 := R8.out.from0 e1; have h2 := C4.out k e2; have h3 := L6.out; have h4 := L34.out; omega))
            replace BB := hid (BB.out.trans (OV.out.upto (D := w.heap.size) (Nat.le_trans WN.out NN.out) BB.out.size))
            replace B0 := hid (B0.out.trans (OV.out.upto (D := N) NN.out (Nat.le_trans NN.out B0.out.size)))
            clear K1 OV O2 hlt P6 R4 L6 L34 C4 g6 hk
            have HC6 := hid (build_one (TT0.out.below BB.out) (Nat.le_trans NN.out B0.out.size) HN.out (by omega) (VW.out.move B0.out))
            go_wp2_with fail
            refine HC6.out.mono ?_
            rintro e w7 ⟨⟨A9, c9, A10, c10, rfl, x9, r10⟩, b7⟩
            clear HC6 p3 t3
            replace Q8 := hid (below_heap b7 Q8.out)
            replace R8 := hid (R8.out.below b7)
            have al := below_alloc (Below.refl _ w7) (.cells #[.slice A9 0 c9, .int .u8 1, .string ⟨#[]⟩, .slice A10 n c10] 30)
            have Q9 := hid (heap_alloc_new w7 (.cells #[.slice A9 0 c9, .int .u8 1, .string ⟨#[]⟩, .slice A10 n c10] 30))
            have R10 := hid (r10.below al)
            replace BB := hid (below_then (below_then BB.out b7) al)
            replace Q8 := hid (below_heap al Q8.out)
            replace R8 := hid (R8.out.below al)
            clear b7 al r10 x9
            go_upto_region 17 with fail
            obtain ⟨S9, hS9⟩ : ∃ S9, S9 = w7.heap.size := ⟨_, rfl⟩
            rw [← hS9] at Q9 ⊢
            clear hS9
            generalize w7.alloc (.cells #[.slice A9 0 c9, .int .u8 1, .string ⟨#[]⟩, .slice A10 n c10] 30) = W7 at *
            obtain ⟨-, q1, -, q3, -, -, -, -⟩ := four Q8.out
            have r8' : Row W7 w4.heap.size A8 c8 row := R8.out
            have HC7 := hid (bytes_self HN.out r8'.bsa (RR0.out.below BB.out))
            go_wp2_with fail
            refine HC7.out.mono ?_
            rintro e w8 ⟨rfl, b8⟩
            clear HC7 q1 q3 r8'
            replace BB := hid (below_then BB.out b8)
            obtain ⟨-, -, -, q3, -, -, -, -⟩ := four (below_heap b8 Q9.out)
            replace R10 := hid (R10.out.below b8)
            clear b8
            have HC8 := hid (bytes_self HN.out R10.out.bsa (RR0.out.below BB.out))
            go_wp2_with fail
            refine HC8.out.mono ?_
            rintro e w9 ⟨rfl, b9⟩
            clear HC8 q3
            replace BB := hid (below_then BB.out b9)
            clear b9
            go_wp2
            go_ret
            exact ⟨rfl, BB.out⟩
end Go.Proofs.YtmbgfjcmdolggaaDoor
