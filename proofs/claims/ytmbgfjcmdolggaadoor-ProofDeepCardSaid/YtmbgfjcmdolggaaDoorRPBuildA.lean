/- The walk of the reference's Build. -/
import Derived.Test.YtmbgfjcmdolggaaDoorItemsC
import Derived.Test.YtmbgfjcmdolggaaDoorPBuild
set_option linter.unusedVariables false
set_option linter.unusedSimpArgs false
namespace Go.Proofs.YtmbgfjcmdolggaaDoor
open Go.RowKit PrintLast

theorem rbuilt_end {w X : World} {S k m c d : Nat} {kk : Int} {R B : Option Addr} {key : ByteArray} {P : Prf} (hS : S = w.heap.size) (h0 : X.heap[S]? = some (.cells #[.slice none 0 0, .int .u8 0, .string ⟨#[]⟩, .slice none 0 0] 36 (0, 0))) (hL : Txt X S R c P.side) (hr : Row X S B d P.row) (hk : P.side.length = k) (hm : P.row.length = m) (hkd : (P.kind.toNat : Int) = kk) (hky : P.key = key) (hX : Below S w X) :
    Built w P (.returned (.agg #[.slice R k c, .int .u8 kk, .string key, .slice B m d])) ((((X.setCell ⟨S, 0, none⟩ (.slice R k c)).setCell ⟨S, 1, none⟩ (.int .u8 kk)).setCell ⟨S, 2, none⟩ (.string key)).setCell ⟨S, 3, none⟩ (.slice B m d)) := by
  subst hk hm hkd hky
  refine ⟨R, c, B, d, rfl, ?_, ?_, ?_⟩
  · rw [← hS]; exact own_far hL (set4_keeps X S _ _ _ _) h0 (by decide)
  · rw [← hS]; exact own_far hr (set4_keeps X S _ _ _ _) h0 (by decide)
  · rw [← hS]; exact set4_below hX (Nat.le_refl _) _ _ _ _
def endI : List RI → Tr
  | [] => .nil
  | x :: _ => .leaf x.itm
def Typed (w : World) (A : Option Addr) : Prop := ∀ g o, A = some ⟨g, o, none⟩ → ∃ cur, w.heap[g]? = some (Obj.cells cur 91 (0, 0))
def Ready (w : World) (A : Option Addr) (L : List RI) : Prop := ItAt w A L ∧ KeysOk L ∧ RowsOk L ∧ Typed w A
theorem Ready.below {w w' : World} {A : Option Addr} {L : List RI} (h : Ready w A L) (hb : Below w.heap.size w w') : Ready w' A L := ⟨h.1.below hb, h.2.1, h.2.2.1, fun g o e => by
    obtain ⟨cur, h1⟩ := h.2.2.2 g o e
    exact ⟨cur, below_heap hb h1⟩⟩
theorem end_few {f n d : Nat} {L : List RI} {key : ByteArray} (hn : L.length = n) (h : n ≤ 1 ∨ f = 0) : walkT (treeF f (mapI L)) d key = ([], endI L) := by
  match L, hn with
  | [], _ => rw [show mapI [] = [] from rfl, treeF_nil]; rfl
  | [x], _ => rw [show mapI [x] = [x.itm] from rfl, treeF_one]; rfl
  | x :: y :: l, hn =>
    rcases h with h | rfl
    · simp at hn; omega
    · rfl
theorem endT_same {s : List ByteArray} {x : Itm} {key : ByteArray} (h : x.key = key) : endT s (.leaf x) key = ⟨s, 1, ⟨#[]⟩, x.row⟩ := by simp [endT, h]
theorem endT_other {s : List ByteArray} {x : Itm} {key : ByteArray} (h : ¬ x.key = key) : endT s (.leaf x) key = ⟨s, 2, x.key, x.row⟩ := by simp [endT, h]
theorem Its.typed {w : World} {B c : Nat} {A : Option Addr} {l : List RI} (h : Its w B A c l) : Typed w A := by
  rintro g o rfl
  rcases h.1.2 with ⟨e', _⟩ | ⟨g', cap, cur, e', _, hg, _⟩
  · cases e'
  · have e2 : g = g' := by simpa using congrArg (fun v => match v with | Value.slice (some a) _ _ => a.block | _ => 0) e'
    rw [e2]
    exact ⟨cur, hg⟩
theorem Row.moved {w w' : World} {B c : Nat} {A : Option Addr} {l : List UInt8} (h : Row w B A c l) (hm : ∀ (k : Nat) (cs : Array Value), w.heap[k]? = some (Obj.cells cs 5 (0, 0)) → w'.heap[k]? = some (Obj.cells cs 5 (0, 0))) : Row w' B A c l := by
  refine ⟨h.1, ?_⟩
  rcases h.2 with k | ⟨g, cap, cur, e, hb, hg, r⟩
  · exact .inl k
  · exact .inr ⟨g, cap, cur, e, hb, hm g cur hg, r⟩
theorem Ready.moved {w w' : World} {A : Option Addr} {L : List RI} (h : Ready w A L) (hm : ∀ (k : Nat) (cs : Array Value) (t : TypeId), (t = 5 ∨ t = 91) → w.heap[k]? = some (Obj.cells cs t (0, 0)) → w'.heap[k]? = some (Obj.cells cs t (0, 0))) : Ready w' A L := by
  obtain ⟨⟨h1, h2, h3⟩, h4, h5, h6⟩ := h
  refine ⟨⟨h1, fun ad e j hj => ?_, fun x hx => (h3 x hx).moved (fun k cs hk => hm k cs _ (.inl rfl) hk)⟩, h4, h5, fun g o e => ?_⟩
  · obtain ⟨g, o, e', _⟩ := ItAt.at_ ⟨h1, h2, h3⟩ j hj
    rw [e] at e'
    cases e'
    obtain ⟨cur, hg⟩ := h6 g o e
    have hg' := hm g cur _ (.inr rfl) hg
    have mv : ∀ i v, w.cell? ((⟨g, o, none⟩ : Addr).add i) = some v → w'.cell? ((⟨g, o, none⟩ : Addr).add i) = some v := fun i v hv => (World.cell?_of_block (by rw [addr_add_block]; exact hg'.trans hg.symm)).trans hv
    obtain ⟨c1, c2⟩ := h2 _ e j hj
    exact ⟨mv _ _ c1, mv _ _ c2⟩
  · obtain ⟨cur, hg⟩ := h6 g o e
    exact ⟨cur, hm g cur _ (.inr rfl) hg⟩
/-- Items that came in stay through a round. -/
theorem rd_move {w0 w1 w3 w4 w2 w5 : World} {A R : Option Addr} {L : List RI} {LS : List ByteArray} {S b1 c' k : Nat} {cs1 : Array Value} (h : Ready w0 A L) (d1 : Below w0.heap.size w0 w1) (d3 : Below w1.heap.size w1 w3) (al : Below w3.heap.size w3 w4) (m2 : w4.grownBy w2 (Value.slice R k c').ownBlock) (kp : Keeps (fun g => g = b1) w2 w5) (hL : Txt w4 S R c' LS) (hk : LS.length = k) (e1 : w2.heap[b1]? = some (.cells cs1 36 (0, 0))) : Ready w5 A L := by
  refine (((h.below d1).below d3).below al).moved (fun g cs t ht hg => ?_)
  have hs : t ≠ 9 := by rcases ht with rfl | rfl <;> decide
  have hg2 := hL.beside hk m2 hg hs
  refine kp.heap hg2 (fun e => ?_)
  rw [e, e1] at hg2
  simp at hg2
  rcases ht with rfl | rfl
  · exact absurd hg2.2 (by decide)
  · exact absurd hg2.2 (by decide)
theorem copy_own {w : World} {A : Option Addr} {c m : Nat} {row : List UInt8} (hm : row.length = m) (hr : BSA w A c row) (hb : m ≤ 1000000) :
    Calls Tryd.prog 22 #[.slice A m c, .slice none 0 0] w fun e w' => ∃ A' c', e = .returned (.slice A' m c') ∧ Row w' w.heap.size A' c' row ∧ Below w.heap.size w w' := by
  refine (join_gave hm rfl (List.append_nil row) hr (BSA.nil w) (by omega)).mono ?_
  rintro e w' ⟨A', c', rfl, h1, h2⟩
  exact ⟨A', c', by rw [hm], h1, h2⟩
theorem infRP : (Tryd.prog.info? 36).map (·.size) = some 4 := by kernel_rfl

end Go.Proofs.YtmbgfjcmdolggaaDoor
