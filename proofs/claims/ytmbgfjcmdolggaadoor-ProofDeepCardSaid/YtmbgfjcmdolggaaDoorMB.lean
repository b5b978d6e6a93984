import Derived.Test.YtmbgfjcmdolggaaDoorMA
import Derived.Test.YtmbgfjcmdolggaaDoorChecked
import Derived.Test.YtmbgfjcmdolggaaDoorLast
import Derived.Outline
import Derived.WalkSpells
import Derived.WalkLawsBesides
import Derived.Laws.BitsAllLaws
import Derived.BigQuiet
set_option linter.unusedVariables false
set_option linter.unusedSimpArgs false
/- The walks of turn, RotateLeft32, spread: turns to the right, on words of 32 bits. -/
namespace Go.Proofs.YtmbgfjcmdolggaaDoor
open Go.RowKit

/-! ### Words: their operations under names of their own, so that a walk leaves them as they stand -/
def wAnd (x y : UInt32) : UInt32 := x &&& y
def wOr (x y : UInt32) : UInt32 := x ||| y
def wXor (x y : UInt32) : UInt32 := x ^^^ y
def wAdd (x y : UInt32) : UInt32 := x + y
def wShr (x : UInt32) (n : Nat) : UInt32 := x >>> UInt32.ofNat n
def wShl (x : UInt32) (n : Nat) : UInt32 := x <<< UInt32.ofNat n
/-- x, turned to the right by n. -/
def rotr (x : UInt32) (n : Nat) : UInt32 := wOr (wShr x n) (wShl x (32 - n))

theorem word_lt (x : UInt32) : (x.toNat : Int) < 4294967296 := by have := x.toNat_lt; omega
theorem word_and (x y : UInt32) : bits .and .u32 (x.toNat : Int) (y.toNat : Int) = ((wAnd x y).toNat : Int) := by
  rw [u32_and_nat _ _ x.toNat_lt y.toNat_lt, wAnd, UInt32.toNat_and]
theorem word_or (x y : UInt32) : bits .or .u32 (x.toNat : Int) (y.toNat : Int) = ((wOr x y).toNat : Int) := by
  rw [u32_or_nat _ _ x.toNat_lt y.toNat_lt, wOr, UInt32.toNat_or]
theorem word_xor (x y : UInt32) : bits .xor .u32 (x.toNat : Int) (y.toNat : Int) = ((wXor x y).toNat : Int) := by
  rw [u32_xor_nat _ _ x.toNat_lt y.toNat_lt, wXor, UInt32.toNat_xor]
theorem word_add (x y : UInt32) : ((x.toNat : Int) + (y.toNat : Int)) % 4294967296 = ((wAdd x y).toNat : Int) := by
  rw [wAdd, UInt32.toNat_add]; omega
theorem word_shr (x : UInt32) (n : Nat) (h : n < 32) : (x.toNat : Int) / 2 ^ n = ((wShr x n).toNat : Int) := by
  rw [wShr, UInt32.toNat_shiftRight, UInt32.toNat_ofNat_of_lt' (by simp [UInt32.size]; omega), Nat.mod_eq_of_lt h, Nat.shiftRight_eq_div_pow]
  simp
theorem word_shl (x : UInt32) (n : Nat) (h : n < 32) : (x.toNat : Int) * 2 ^ n % 4294967296 = ((wShl x n).toNat : Int) := by
  rw [wShl, UInt32.toNat_shiftLeft, UInt32.toNat_ofNat_of_lt' (by simp [UInt32.size]; omega), Nat.mod_eq_of_lt h, Nat.shiftLeft_eq]
  simp

theorem turn_any {w : World} {x : UInt32} {n : Nat} (h0 : 0 < n) (h1 : n < 32) :
    Calls Tryd.prog 56 #[.int .u32 (x.toNat : Int), .int .i64 (n : Int)] w fun e w' => e = .returned (.int .u32 ((rotr x n).toNat : Int)) ∧ Below w.heap.size w w' := by
  have e1 := word_shr x n h1
  have e2 := word_shl x (32 - n) (by omega)
  have e3 := word_or (wShr x n) (wShl x (32 - n))
  go_enter Tryd.func56, Tryd.ntmps56
  go_wp2
  go_region
  all_goals
    go_wp2
    go_ret
    exact ⟨rfl, (Below.refl _ w).drew⟩

theorem back_by : ∀ n : Fin 32, 0 < n.val → bits .and .u64 (IntKind.u64.wrap (-(n.val : Int))) 31 = ((32 - n.val : Nat) : Int) ∧ (IntKind.u64.wrap (32 - ((32 - n.val : Nat) : Int))).toNat = n.val := by decide
theorem rotl_any {w : World} {x : UInt32} {n : Nat} (h0 : 0 < n) (h1 : n < 32) :
    Calls Tryd.prog 79 #[.int .u32 (x.toNat : Int), .int .i64 (-(n : Int))] w fun e w' => e = .returned (.int .u32 ((rotr x n).toNat : Int)) ∧ w = w' := by
  obtain ⟨e0, e4⟩ := back_by ⟨n, h1⟩ h0
  have e1 := word_shr x n h1
  have e2 := word_shl x (32 - n) (by omega)
  have e3 : wOr (wShl x (32 - n)) (wShr x n) = rotr x n := by unfold rotr wOr; exact UInt32.or_comm _ _
  obtain ⟨m, hm⟩ : ∃ m, m = 32 - n := ⟨_, rfl⟩
  have m32 : m < 32 := by omega
  have E3 := word_or (wShl x m) (wShr x n)
  simp only [← hm] at e0 e2 e3 e4
  rw [e3] at E3
  have e5 : min m 32 = m := by omega
  have e6 : min n 32 = n := by omega
  have e7 : (x.toNat : Int) / 2 ^ (32 - m) = ((wShr x n).toNat : Int) := by rw [← e1]; congr 2; omega
  clear hm e3
  go_enter Tryd.func79, Tryd.ntmps79
  go_wp2
  go_ret
  exact ⟨rfl, rfl⟩

/-- Two turns, and something more. -/
theorem spread_any {w : World} {x y : UInt32} {a b : Nat} (ha : 0 < a ∧ a < 32) (hb : 0 < b ∧ b < 32) :
    Calls Tryd.prog 78 #[.int .u32 (x.toNat : Int), .int .i64 (a : Int), .int .i64 (b : Int), .int .u32 (y.toNat : Int)] w fun e w' => e = .returned (.int .u32 ((wXor (wXor (rotr x a) (rotr x b)) y).toNat : Int)) ∧ w = w' := by
  have e1 := word_xor (rotr x a) (rotr x b)
  have e2 := word_xor (wXor (rotr x a) (rotr x b)) y
  obtain ⟨ha1, ha2⟩ := ha
  obtain ⟨hb1, hb2⟩ := hb
  go_enter Tryd.func78, Tryd.ntmps78
  go_wp2_with fail
  refine (rotl_any ha1 ha2).mono ?_
  rintro e w1 ⟨rfl, rfl⟩
  go_wp2_with fail
  refine (rotl_any hb1 hb2).mono ?_
  rintro e w1 ⟨rfl, rfl⟩
  go_wp2
  go_ret
  exact ⟨rfl, rfl⟩
end Go.Proofs.YtmbgfjcmdolggaaDoor

/- SHA-256 as plain Lean: the words of a block, the rounds, blocks one behind the other, what stands behind the bytes. -/
namespace Go.Proofs.YtmbgfjcmdolggaaDoor

def wNot (x : UInt32) : UInt32 := 4294967295 - x
theorem word_not (x : UInt32) : 4294967295 - (x.toNat : Int) = ((wNot x).toNat : Int) := by
  have h := x.toNat_lt
  rw [wNot, UInt32.toNat_sub_of_le _ _ (by rw [UInt32.le_iff_toNat_le]; show x.toNat ≤ 4294967295; omega)]
  show _ = (((4294967295 : Nat) - x.toNat : Nat) : Int)
  omega

def choice (e f g : UInt32) : UInt32 := wOr (wAnd e f) (wAnd (wNot e) g)
def most (a b c : UInt32) : UInt32 := wXor (wXor (wAnd a b) (wAnd a c)) (wAnd b c)
theorem choice_eq (e f g : UInt32) : wXor g (wAnd e (wXor f g)) = choice e f g := by
  unfold choice wXor wAnd wOr wNot
  rw [← UInt32.toBitVec_inj]
  simp only [UInt32.toBitVec_xor, UInt32.toBitVec_and, UInt32.toBitVec_or, UInt32.toBitVec_sub]
  have : (4294967295 : UInt32).toBitVec = BitVec.allOnes 32 := rfl
  rw [this, BitVec.allOnes_sub_eq_not]
  ext i
  simp
  cases e.toBitVec[i] <;> cases f.toBitVec[i] <;> cases g.toBitVec[i] <;> rfl
theorem most_eq (a b c : UInt32) : wOr (wAnd a b) (wAnd c (wOr a b)) = most a b c := by
  unfold most wXor wAnd wOr
  rw [← UInt32.toBitVec_inj]
  simp only [UInt32.toBitVec_xor, UInt32.toBitVec_and, UInt32.toBitVec_or]
  ext i
  simp
  cases a.toBitVec[i] <;> cases b.toBitVec[i] <;> cases c.toBitVec[i] <;> rfl
theorem wAdd_assoc (x y z : UInt32) : wAdd (wAdd x y) z = wAdd x (wAdd y z) := UInt32.add_assoc x y z
theorem wAdd_comm (x y : UInt32) : wAdd x y = wAdd y x := UInt32.add_comm x y

/-! ### The words of a block -/
def sig0 (a : UInt32) : UInt32 := wXor (wXor (rotr a 7) (rotr a 18)) (wShr a 3)
def sig1 (b : UInt32) : UInt32 := wXor (wXor (rotr b 17) (rotr b 19)) (wShr b 10)
def nextW (l : List UInt32) : UInt32 :=
  wAdd (wAdd (wAdd (l.getD (l.length - 16) 0) (l.getD (l.length - 7) 0)) (sig0 (l.getD (l.length - 15) 0))) (sig1 (l.getD (l.length - 2) 0))
def sched (m : List UInt32) : Nat → List UInt32
  | 0 => m
  | n + 1 => sched m n ++ [nextW (sched m n)]
theorem sched_length (m : List UInt32) (hm : m.length = 16) : ∀ n, (sched m n).length = 16 + n
  | 0 => hm
  | n + 1 => by simp [sched, sched_length m hm n]; omega
theorem sched_get (m : List UInt32) (hm : m.length = 16) (n : Nat) : ∀ k, n ≤ k → ∀ i, i < 16 + n → (sched m k).getD i 0 = (sched m n).getD i 0
  | 0, h, i, _ => by have : n = 0 := by omega
                     subst this; rfl
  | k + 1, h, i, hi => by
    by_cases e : n = k + 1
    · subst e; rfl
    · have l := sched_length m hm k
      rw [← sched_get m hm n k (by omega) i hi]
      simp only [sched, List.getD_eq_getElem?_getD]
      rw [List.getElem?_append_left (by omega)]
/-- Word i. -/
def W (m : List UInt32) (i : Nat) : UInt32 := (sched m 48).getD i 0
theorem W_low {m : List UInt32} (hm : m.length = 16) {i : Nat} (hi : i < 16) : W m i = m.getD i 0 := sched_get m hm 0 48 (by omega) i (by omega)
theorem W_next {m : List UInt32} (hm : m.length = 16) {i : Nat} (h : 16 ≤ i) (hi : i < 64) : W m i = wAdd (wAdd (wAdd (W m (i - 16)) (W m (i - 7))) (sig0 (W m (i - 15)))) (sig1 (W m (i - 2))) := by
  obtain ⟨n, rfl⟩ : ∃ n, i = 16 + n := ⟨i - 16, by omega⟩
  have l := sched_length m hm n
  have e : ∀ j, j < 16 + n → W m j = (sched m n).getD j 0 := fun j hj => sched_get m hm n 48 (by omega) j hj
  rw [e (16 + n - 16) (by omega), e (16 + n - 7) (by omega), e (16 + n - 15) (by omega), e (16 + n - 2) (by omega)]
  unfold W
  rw [sched_get m hm (n + 1) 48 (by omega) (16 + n) (by omega)]
  simp only [sched, List.getD_eq_getElem?_getD]
  rw [List.getElem?_append_right (by omega), l]
  simp [nextW, l]

/-! ### The rounds -/
def roundK : List UInt32 := [1116352408, 1899447441, 3049323471, 3921009573, 961987163, 1508970993, 2453635748, 2870763221, 3624381080, 310598401, 607225278, 1426881987, 1925078388, 2162078206, 2614888103, 3248222580, 3835390401, 4022224774, 264347078, 604807628, 770255983, 1249150122, 1555081692, 1996064986, 2554220882, 2821834349, 2952996808, 3210313671, 3336571891, 3584528711, 113926993, 338241895, 666307205, 773529912, 1294757372, 1396182291, 1695183700, 1986661051, 2177026350, 2456956037, 2730485921, 2820302411, 3259730800, 3345764771, 3516065817, 3600352804, 4094571909, 275423344, 430227734, 506948616, 659060556, 883997877, 958139571, 1322822218, 1537002063, 1747873779, 1955562222, 2024104815, 2227730452, 2361852424, 2428436474, 2756734187, 3204031479, 3329325298]
def roundT (k w : UInt32) (e f g h : UInt32) : UInt32 :=
  wAdd (wAdd (wAdd (wAdd h (wXor (wXor (rotr e 6) (rotr e 11)) (rotr e 25))) (choice e f g)) k) w
def roundU (a b c : UInt32) : UInt32 := wAdd (wXor (wXor (rotr a 2) (rotr a 13)) (rotr a 22)) (most a b c)
def step (k w : UInt32) : List UInt32 → List UInt32
  | [a, b, c, d, e, f, g, h] => [wAdd (roundT k w e f g h) (roundU a b c), a, b, c, wAdd d (roundT k w e f g h), e, f, g]
  | s => s
def rounds (m : List UInt32) : Nat → List UInt32 → List UInt32
  | 0, s => s
  | n + 1, s => step (roundK.getD n 0) (W m n) (rounds m n s)
theorem eight {s : List UInt32} (h : s.length = 8) : ∃ a b c d e f g i, s = [a, b, c, d, e, f, g, i] := by
  match s, h with
  | [a, b, c, d, e, f, g, i], _ => exact ⟨a, b, c, d, e, f, g, i, rfl⟩
theorem step_length (k w : UInt32) {s : List UInt32} (h : s.length = 8) : (step k w s).length = 8 := by
  obtain ⟨a, b, c, d, e, f, g, i, rfl⟩ := eight h
  rfl
theorem rounds_length (m : List UInt32) {s : List UInt32} (h : s.length = 8) : ∀ n, (rounds m n s).length = 8
  | 0 => h
  | n + 1 => step_length _ _ (rounds_length m h n)
def comp (m s : List UInt32) : List UInt32 := List.zipWith wAdd s (rounds m 64 s)
theorem comp_length (m : List UInt32) {s : List UInt32} (h : s.length = 8) : (comp m s).length = 8 := by
  unfold comp; rw [List.length_zipWith, h, rounds_length m h]; rfl

/-! ### Bytes -/
/-- Four bytes as a word, the highest first. -/
def be (l : List UInt8) : UInt32 := l.foldl (fun x b => wOr (wShl x 8) b.toUInt32) 0
def chunk (p : List UInt8) (j : Nat) : List UInt8 := (p.drop (4 * j)).take 4
def wordsOf (p : List UInt8) : List UInt32 := (List.range 16).map fun j => be (chunk p j)
theorem wordsOf_length (p : List UInt8) : (wordsOf p).length = 16 := by simp [wordsOf]
/-- Block by block: what comes of them, and what is left over. -/
def run (s : List UInt32) (p : List UInt8) : List UInt32 × List UInt8 :=
  if h : 64 ≤ p.length then run (comp (wordsOf (p.take 64)) s) (p.drop 64) else (s, p)
termination_by p.length
decreasing_by simp; omega
theorem run_short {s : List UInt32} {p : List UInt8} (h : p.length < 64) : run s p = (s, p) := by
  rw [run, dif_neg (by omega)]
theorem run_block {s : List UInt32} {p : List UInt8} (h : 64 ≤ p.length) : run s p = run (comp (wordsOf (p.take 64)) s) (p.drop 64) := by
  rw [run, dif_pos h]
theorem run_rest (s : List UInt32) (p : List UInt8) : (run s p).2 = p.drop (p.length / 64 * 64) := by
  by_cases h : 64 ≤ p.length
  · rw [run_block h, run_rest _ (p.drop 64), List.drop_drop]
    congr 1
    simp only [List.length_drop]
    omega
  · rw [run_short (by omega)]
    have : p.length / 64 = 0 := by omega
    simp [this]
termination_by p.length
decreasing_by simp; omega
theorem run_rest_length (s : List UInt32) (p : List UInt8) : (run s p).2.length = p.length % 64 := by
  rw [run_rest]; simp only [List.length_drop]; omega
theorem run_append (s : List UInt32) (p q : List UInt8) : run s (p ++ q) = run (run s p).1 ((run s p).2 ++ q) := by
  by_cases h : 64 ≤ p.length
  · rw [run_block (p := p) h, ← run_append _ (p.drop 64) q, run_block (p := p ++ q) (by simp; omega)]
    rw [List.take_append_of_le_length h, List.drop_append_of_le_length h]
  · rw [run_short (p := p) (by omega)]
termination_by p.length
decreasing_by simp; omega
theorem run_length {s : List UInt32} (h : s.length = 8) (p : List UInt8) : (run s p).1.length = 8 := by
  by_cases h64 : 64 ≤ p.length
  · rw [run_block h64]; exact run_length (comp_length _ h) (p.drop 64)
  · rw [run_short (by omega)]; exact h
termination_by p.length
decreasing_by simp; omega

def first : List UInt32 := [1779033703, 3144134277, 1013904242, 2773480762, 1359893119, 2600822924, 528734635, 1541459225]
/-- A number's eight bytes, the highest first. -/
def eightBytes (n : Nat) : List UInt8 := (List.range 8).map fun j => UInt8.ofNat (n / 2 ^ (8 * (7 - j)))
/-- So many noughts make it 56 of 64. -/
def noughts (n : Nat) : Nat := (119 - n % 64) % 64
def padded (p : List UInt8) : List UInt8 := p ++ [128] ++ List.replicate (noughts p.length) 0 ++ eightBytes (8 * p.length)
def fourBytes (x : UInt32) : List UInt8 := (List.range 4).map fun j => UInt8.ofNat (x.toNat / 2 ^ (8 * (3 - j)))
def bytesOf (s : List UInt32) : List UInt8 := s.flatMap fourBytes
def sum256 (p : List UInt8) : List UInt8 := bytesOf (run first (padded p)).1
theorem noughts_spec (n : Nat) : (n + 1 + noughts n) % 64 = 56 := by unfold noughts; omega
theorem noughts_min (n k : Nat) (h : (n + 1 + k) % 64 = 56) : noughts n ≤ k := by unfold noughts; omega
theorem padded_length (p : List UInt8) : (padded p).length = p.length + 1 + noughts p.length + 8 := by simp [padded, eightBytes]; omega
theorem padded_whole (p : List UInt8) : (padded p).length % 64 = 0 := by rw [padded_length]; have := noughts_spec p.length; omega
theorem fourBytes_length (x : UInt32) : (fourBytes x).length = 4 := by simp [fourBytes]
end Go.Proofs.YtmbgfjcmdolggaaDoor

/- Words in memory; the walk of word (the round's word, in a ring of sixteen). -/
namespace Go.Proofs.YtmbgfjcmdolggaaDoor
open Go.RowKit PrintLast

theorem word_addW (x y : UInt32) : IntKind.u32.wrap ((x.toNat : Int) + (y.toNat : Int)) = ((wAdd x y).toNat : Int) := by rw [IntKind.wrap_u32', word_add]
/-- Words as cells. -/
def u32s (l : List UInt32) : Array Value := (l.map fun x => Value.int .u32 (x.toNat : Int)).toArray
theorem u32s_size (l : List UInt32) : (u32s l).size = l.length := by simp [u32s]
theorem u32s_get (l : List UInt32) (i : Nat) (h : i < l.length) : (u32s l)[i]? = some (.int .u32 ((l.getD i 0).toNat : Int)) := by
  simp [u32s, h]
theorem u32s_set (l : List UInt32) (i : Nat) (x : UInt32) : (u32s l).setIfInBounds i (.int .u32 (x.toNat : Int)) = u32s (l.set i x) := by
  unfold u32s
  rw [List.map_set]
  simp
/-- The words l lie in block g. -/
def WordsAt (w : World) (g : Nat) (l : List UInt32) (t : TypeId) : Prop := w.heap[g]? = some (.cells (u32s l) t (0, 0))
theorem WordsAt.cell {w : World} {g : Nat} {l : List UInt32} {t : TypeId} (h : WordsAt w g l t) (i : Nat) (hi : i < l.length) : w.cell? ⟨g, i, none⟩ = some (.int .u32 ((l.getD i 0).toNat : Int)) := cell_at h (u32s_get l i hi)
theorem WordsAt.free {w : World} {g : Nat} {l : List UInt32} {t : TypeId} (h : WordsAt w g l t) (i : Nat) : w.frozen? ⟨g, i, none⟩ = false := free_at h i
theorem WordsAt.set {w : World} {g : Nat} {l : List UInt32} {t : TypeId} (h : WordsAt w g l t) (i : Nat) (x : UInt32) : WordsAt (w.setCell ⟨g, i, none⟩ (.int .u32 (x.toNat : Int))) g (l.set i x) t := by
  unfold WordsAt
  rw [heap_set h, u32s_set]
theorem WordsAt.keeps {S : Nat → Prop} {w w' : World} {g : Nat} {l : List UInt32} {t : TypeId} (h : WordsAt w g l t) (hk : Keeps S w w') (hn : ¬ S g) : WordsAt w' g l t := hk.heap h hn
theorem WordsAt.below {w w' : World} {g : Nat} {l : List UInt32} {t : TypeId} (h : WordsAt w g l t) (hb : Below w.heap.size w w') : WordsAt w' g l t := below_heap hb h
theorem Keeps.set1 (w : World) (g k : Nat) (u : Value) : Keeps (fun j => j = g) w (w.setCell ⟨g, k, none⟩ u) := (Keeps.refl (fun j => j = g) w).setCell (p := ⟨g, k, none⟩) (fun _ => rfl) u

theorem WordsAt.row {w : World} {g : Nat} {l m : List UInt32} {t : TypeId} (h : WordsAt w g l t) : WordsAt (w.setRow g (u32s m)) g m t := setRow_heap w g _ _ t _ h
theorem Keeps.row1 (w : World) (g : Nat) (cs : Array Value) : Keeps (fun j => j = g) w (w.setRow g cs) :=
  ⟨rfl, rfl, rfl, by rw [setRow_size]; exact Nat.le_refl _, fun k _ hn => setRow_other w g k cs hn⟩
theorem u32s_one (l : List UInt32) : ((u32s l).all fun x => x.oneCell') = true := by
  simp only [u32s, List.all_toArray, List.all_eq_true]
  intro x hx
  obtain ⟨_, _, rfl⟩ := List.mem_map.1 hx
  rfl
theorem run_index_words {w : World} {P : Program} {t e : TypeId} {n : Nat} {j : TypeInfo} (h : P.underlying t = some (.array n e)) (hagg : (isAgg e).run P w = .ok false w) (hj : P.info? e = some j) (hs : j.size = 1) (l : List UInt32) (hl : l.length = n) (k : Nat) (hk : k < n) :
    (Instr.index t (.agg (u32s l)) (.int .i64 (k : Int))).run P w = .ok (.int .u32 ((l.getD k 0).toNat : Int)) w := by
  have hg := u32s_get l k (by omega)
  simp [Instr.index, run_underlying h, asIntOf, part, sizeOf, typeInfo, hj, hs, hagg, hk, hg, Result.andThen]

/-- The ring, ahead of round i: the sixteen words before it (at first: the block's own). -/
def RingAt (F : Nat → UInt32) (i : Nat) (r : List UInt32) : Prop := r.length = 16 ∧ ∀ t, t < max i 16 → max i 16 ≤ t + 16 → r.getD (t % 16) 0 = F t
/-- Behind round i. -/
def ringNext (F : Nat → UInt32) (i : Nat) (r : List UInt32) : List UInt32 := if 16 ≤ i then r.set (i % 16) (F i) else r
theorem RingAt.next {F : Nat → UInt32} {i : Nat} {r : List UInt32} (h : RingAt F i r) : RingAt F (i + 1) (ringNext F i r) := by
  obtain ⟨h1, h2⟩ := h
  unfold ringNext
  by_cases h16 : 16 ≤ i
  · rw [if_pos h16]
    refine ⟨by simpa using h1, fun t ht1 ht2 => ?_⟩
    by_cases e : t = i
    · subst e
      simp [List.getD_eq_getElem?_getD, show t % 16 < r.length by omega]
    · have : ¬ (i % 16 = t % 16) := by omega
      rw [← h2 t (by omega) (by omega)]
      simp [List.getD_eq_getElem?_getD, List.getElem?_set, this]
  · rw [if_neg h16]
    refine ⟨h1, fun t ht1 ht2 => h2 t (by omega) (by omega)⟩
theorem RingAt.start (F : Nat → UInt32) (r : List UInt32) (h : r.length = 16) (hF : ∀ t, t < 16 → F t = r.getD t 0) : RingAt F 0 r :=
  ⟨h, fun t ht1 ht2 => by rw [hF t (by omega)]; congr 1; omega⟩

set_option maxRecDepth 100000 in
set_option maxHeartbeats 800000 in
theorem word_any {w : World} {g : Nat} {t : TypeId} {r : List UInt32} {F : Nat → UInt32} {i : Nat} (hi : i < 64) (hr : WordsAt w g r t) (hF : RingAt F i r)
    (hnext : ∀ i, 16 ≤ i → i < 64 → F i = wAdd (wAdd (wAdd (F (i - 16)) (F (i - 7))) (sig0 (F (i - 15)))) (sig1 (F (i - 2)))) :
    Calls Tryd.prog 80 #[.pointer (some ⟨g, 0, none⟩), .int .i64 (i : Int)] w fun e w' => e = .returned (.int .u32 ((F i).toNat : Int)) ∧ WordsAt w' g (ringNext F i r) t ∧ Keeps (fun j => j = g) w w' := by
  obtain ⟨hl, hw⟩ := hF
  have hcell := fun j (hj : j < 16) => hr.cell j (by omega)
  by_cases h16 : i < 16
  · have t16 : decide ((16 : Int) ≤ (i : Int)) = false := by simp; omega
    have m16 : ((i : Int).tmod 16) = (i : Int) := by rw [Int.tmod_eq_emod_of_nonneg (by omega)]; omega
    have c1 := hcell i h16
    have e1 : r.getD i 0 = F i := by have := hw i (by omega) (by omega); rwa [show i % 16 = i by omega] at this
    rw [e1] at c1
    have er : ringNext F i r = r := by unfold ringNext; rw [if_neg (by omega)]
    rw [er]
    clear hcell hw e1 er hnext
    go_enter Tryd.func80, Tryd.ntmps80
    go_wp2
    go_ret
    exact ⟨rfl, hr, Keeps.refl _ _⟩
  · have t16 : decide ((16 : Int) ≤ (i : Int)) = true := by simp; omega
    obtain ⟨j0, hj0⟩ : ∃ j, j = i % 16 := ⟨_, rfl⟩
    obtain ⟨j1, hj1⟩ : ∃ j, j = (i + 1) % 16 := ⟨_, rfl⟩
    obtain ⟨j9, hj9⟩ : ∃ j, j = (i + 9) % 16 := ⟨_, rfl⟩
    obtain ⟨j14, hj14⟩ : ∃ j, j = (i + 14) % 16 := ⟨_, rfl⟩
    have l0 : j0 < 16 := by omega
    have l1 : j1 < 16 := by omega
    have l9 : j9 < 16 := by omega
    have l14 : j14 < 16 := by omega
    have m0 : ((i : Int).tmod 16) = (j0 : Int) := by rw [Int.tmod_eq_emod_of_nonneg (by omega)]; omega
    have m1 : (((i : Int) + 1).tmod 16) = (j1 : Int) := by rw [Int.tmod_eq_emod_of_nonneg (by omega)]; omega
    have m9 : (((i : Int) + 9).tmod 16) = (j9 : Int) := by rw [Int.tmod_eq_emod_of_nonneg (by omega)]; omega
    have m14 : (((i : Int) + 14).tmod 16) = (j14 : Int) := by rw [Int.tmod_eq_emod_of_nonneg (by omega)]; omega
    have c0 := hcell j0 l0
    have c1 := hcell j1 l1
    have c9 := hcell j9 l9
    have c14 := hcell j14 l14
    rw [show r.getD j0 0 = F (i - 16) by rw [hj0, ← hw (i - 16) (by omega) (by omega)]; congr 1; omega] at c0
    rw [show r.getD j1 0 = F (i - 15) by rw [hj1, ← hw (i - 15) (by omega) (by omega)]; congr 1; omega] at c1
    rw [show r.getD j9 0 = F (i - 7) by rw [hj9, ← hw (i - 7) (by omega) (by omega)]; congr 1; omega] at c9
    rw [show r.getD j14 0 = F (i - 2) by rw [hj14, ← hw (i - 2) (by omega) (by omega)]; congr 1; omega] at c14
    have f0 := hr.free j0
    have hnx := hid (hnext i (by omega) hi)
    have er : ringNext F i r = r.set j0 (F i) := by unfold ringNext; rw [if_pos (by omega), ← hj0]
    rw [er]
    obtain ⟨x16, h16'⟩ : ∃ x, x = F (i - 16) := ⟨_, rfl⟩
    obtain ⟨x15, h15'⟩ : ∃ x, x = F (i - 15) := ⟨_, rfl⟩
    obtain ⟨x7, h7'⟩ : ∃ x, x = F (i - 7) := ⟨_, rfl⟩
    obtain ⟨x2, h2'⟩ : ∃ x, x = F (i - 2) := ⟨_, rfl⟩
    rw [← h16', ← h7', ← h15', ← h2'] at hnx
    rw [← h16'] at c0
    rw [← h15'] at c1
    rw [← h7'] at c9
    rw [← h2'] at c14
    have hi1 : i < 64 := hi
    clear hcell hw hnext er hj0 hj1 hj9 hj14 h16' h15' h7' h2' h16
    have s3 := word_shr x15 3 (by omega)
    have s10 := word_shr x2 10 (by omega)
    have s3' : (x15.toNat : Int) / 8 = ((wShr x15 3).toNat : Int) := s3
    have s10' : (x2.toNat : Int) / 1024 = ((wShr x2 10).toNat : Int) := s10
    clear s3 s10
    have S1 : ∀ w : World, Calls Tryd.prog 78 #[.int .u32 (x15.toNat : Int), .int .i64 7, .int .i64 18, .int .u32 ((wShr x15 3).toNat : Int)] w fun e w' => e = .returned (.int .u32 ((sig0 x15).toNat : Int)) ∧ w = w' := fun w => spread_any (a := 7) (b := 18) ⟨by omega, by omega⟩ ⟨by omega, by omega⟩
    have S2 : ∀ w : World, Calls Tryd.prog 78 #[.int .u32 (x2.toNat : Int), .int .i64 17, .int .i64 19, .int .u32 ((wShr x2 10).toNat : Int)] w fun e w' => e = .returned (.int .u32 ((sig1 x2).toNat : Int)) ∧ w = w' := fun w => spread_any (a := 17) (b := 19) ⟨by omega, by omega⟩ ⟨by omega, by omega⟩
    have A1 := word_addW (sig0 x15) x7
    have A2 := word_addW (wAdd (sig0 x15) x7) (sig1 x2)
    have A3 := word_addW x16 (wAdd (wAdd (sig0 x15) x7) (sig1 x2))
    have hsum : wAdd x16 (wAdd (wAdd (sig0 x15) x7) (sig1 x2)) = F i := by rw [hnx.out, wAdd_comm (sig0 x15) x7, wAdd_assoc, wAdd_assoc, wAdd_assoc]
    rw [hsum] at A3
    clear hnx hsum
    go_enter Tryd.func80, Tryd.ntmps80
    go_wp2
    go_region
    have w9 : wrap64 ((i : Int) + 9) = (i : Int) + 9 := by unfold wrap64; omega
    have q0 : ((j0 : Int) < 16) = True := by simp; omega
    have q9 : ((j9 : Int) < 16) = True := by simp; omega
    go_wp2
    refine start_ (n := 27) (S := fun w' => w'.cell? ⟨g, j0, none⟩ = some (.int .u32 (x16.toNat : Int)) ∧ w'.cell? ⟨g, j9, none⟩ = some (.int .u32 (x7.toNat : Int)) ∧ w'.frozen? ⟨g, j0, none⟩ = false) (ds := [26]) #[false, false, false, false, false, false, false, false, false, false, false, false, false, false, false, false, false, false, false, false, false, false, false, false, false, false, false] (by kernel_rfl) rfl rfl ⟨c0, c9, f0⟩ (fun hHeld => ?_)
    refine pure_ (i := 0) (N := some 23) (v := ?_) (a' := ?_) #[true, false, false, false, false, false, false, false, false, false, false, false, false, false, false, false, false, false, false, false, false, false, false, false, false, false, false] rfl rfl (by kernel_rfl) (fun _ _ _ h => h) (Or.inl ⟨by rfl, ?_⟩) ?_ ?_
    rotate_left
    · intro w'
      go_simp
      with_reducible rfl
    rotate_left
    · simp only [Act.put, List.setIfInBounds_toArray, List.set_cons_zero, List.set_cons_succ, i64_w, i32_w]
      rfl
    refine pure_ (i := 1) (N := some 24) (v := ?_) (a' := ?_) #[true, true, false, false, false, false, false, false, false, false, false, false, false, false, false, false, false, false, false, false, false, false, false, false, false, false, false] rfl rfl (by kernel_rfl) (fun _ _ _ h => h) (Or.inl ⟨by rfl, ?_⟩) ?_ ?_
    rotate_left
    · intro w'
      go_simp
      with_reducible rfl
    rotate_left
    · simp only [Act.put, List.setIfInBounds_toArray, List.set_cons_zero, List.set_cons_succ, i64_w, i32_w]
      rfl
    refine pure_ (i := 2) (N := some 25) (v := ?_) (a' := ?_) #[true, true, true, false, false, false, false, false, false, false, false, false, false, false, false, false, false, false, false, false, false, false, false, false, false, false, false] rfl rfl (by kernel_rfl) (fun _ _ _ h => h) (Or.inl ⟨by rfl, ?_⟩) ?_ ?_
    rotate_left
    · intro w'
      go_simp
      with_reducible rfl
    rotate_left
    · simp only [Act.put, List.setIfInBounds_toArray, List.set_cons_zero, List.set_cons_succ, i64_w, i32_w]
      rfl
    refine pure_ (i := 3) (N := some 26) (v := ?_) (a' := ?_) #[true, true, true, true, false, false, false, false, false, false, false, false, false, false, false, false, false, false, false, false, false, false, false, false, false, false, false] rfl rfl (by kernel_rfl) (fun _ _ _ h => h) (Or.inl ⟨by rfl, ?_⟩) ?_ ?_
    rotate_left
    · intro w'
      go_simp
      with_reducible rfl
    rotate_left
    · simp only [Act.put, List.setIfInBounds_toArray, List.set_cons_zero, List.set_cons_succ, i64_w, i32_w]
      rfl
    refine pure_ (i := 4) (N := some 27) (v := ?_) (a' := ?_) #[true, true, true, true, true, false, false, false, false, false, false, false, false, false, false, false, false, false, false, false, false, false, false, false, false, false, false] rfl rfl (by kernel_rfl) (fun _ _ _ h => h) (Or.inl ⟨by rfl, ?_⟩) ?_ ?_
    rotate_left
    · intro w'
      go_simp
      with_reducible rfl
    rotate_left
    · simp only [Act.put, List.setIfInBounds_toArray, List.set_cons_zero, List.set_cons_succ, i64_w, i32_w]
      rfl
    refine pure_ (i := 6) (N := some 29) (v := ?_) (a' := ?_) #[true, true, true, true, true, false, true, false, false, false, false, false, false, false, false, false, false, false, false, false, false, false, false, false, false, false, false] rfl rfl (by kernel_rfl) (fun _ _ _ h => h) (Or.inl ⟨by rfl, ?_⟩) ?_ ?_
    rotate_left
    · intro w'
      go_simp
      with_reducible rfl
    rotate_left
    · simp only [Act.put, List.setIfInBounds_toArray, List.set_cons_zero, List.set_cons_succ, i64_w, i32_w]
      rfl
    refine pure_ (i := 7) (N := some 30) (v := ?_) (a' := ?_) #[true, true, true, true, true, false, true, true, false, false, false, false, false, false, false, false, false, false, false, false, false, false, false, false, false, false, false] rfl rfl (by kernel_rfl) (fun _ _ _ h => h) (Or.inl ⟨by rfl, ?_⟩) ?_ ?_
    rotate_left
    · intro w'
      go_simp
      with_reducible rfl
    rotate_left
    · simp only [Act.put, List.setIfInBounds_toArray, List.set_cons_zero, List.set_cons_succ, i64_w, i32_w]
      rfl
    refine pure_ (i := 8) (N := some 31) (v := ?_) (a' := ?_) #[true, true, true, true, true, false, true, true, true, false, false, false, false, false, false, false, false, false, false, false, false, false, false, false, false, false, false] rfl rfl (by kernel_rfl) (fun _ _ _ h => h) (Or.inl ⟨by rfl, ?_⟩) ?_ ?_
    rotate_left
    · intro w'
      go_simp
      with_reducible rfl
    rotate_left
    · simp only [Act.put, List.setIfInBounds_toArray, List.set_cons_zero, List.set_cons_succ, i64_w, i32_w]
      rfl
    refine pure_ (i := 10) (N := some 33) (v := ?_) (a' := ?_) #[true, true, true, true, true, false, true, true, true, false, true, false, false, false, false, false, false, false, false, false, false, false, false, false, false, false, false] rfl rfl (by kernel_rfl) (fun _ _ _ h => h) (Or.inl ⟨by rfl, ?_⟩) ?_ ?_
    rotate_left
    · intro w'
      go_simp
      with_reducible rfl
    rotate_left
    · simp only [Act.put, List.setIfInBounds_toArray, List.set_cons_zero, List.set_cons_succ, i64_w, i32_w]
      rfl
    refine pure_ (i := 11) (N := some 34) (v := ?_) (a' := ?_) #[true, true, true, true, true, false, true, true, true, false, true, true, false, false, false, false, false, false, false, false, false, false, false, false, false, false, false] rfl rfl (by kernel_rfl) (fun _ _ _ h => h) (Or.inl ⟨by rfl, ?_⟩) ?_ ?_
    rotate_left
    · intro w'
      go_simp
      with_reducible rfl
    rotate_left
    · simp only [Act.put, List.setIfInBounds_toArray, List.set_cons_zero, List.set_cons_succ, i64_w, i32_w]
      rfl
    refine pure_ (i := 12) (N := some 35) (v := ?_) (a' := ?_) #[true, true, true, true, true, false, true, true, true, false, true, true, true, false, false, false, false, false, false, false, false, false, false, false, false, false, false] rfl rfl (by kernel_rfl) (fun _ _ _ h => h) (Or.inl ⟨by rfl, ?_⟩) ?_ ?_
    rotate_left
    · intro w'
      go_simp
      with_reducible rfl
    rotate_left
    · simp only [Act.put, List.setIfInBounds_toArray, List.set_cons_zero, List.set_cons_succ, i64_w, i32_w]
      rfl
    refine pure_ (i := 13) (N := some 36) (v := ?_) (a' := ?_) #[true, true, true, true, true, false, true, true, true, false, true, true, true, true, false, false, false, false, false, false, false, false, false, false, false, false, false] rfl rfl (by kernel_rfl) (fun _ _ _ h => h) (Or.inl ⟨by rfl, ?_⟩) ?_ ?_
    rotate_left
    · intro w'
      go_simp
      with_reducible rfl
    rotate_left
    · simp only [Act.put, List.setIfInBounds_toArray, List.set_cons_zero, List.set_cons_succ, i64_w, i32_w]
      rfl
    refine pure_ (i := 14) (N := some 37) (v := ?_) (a' := ?_) #[true, true, true, true, true, false, true, true, true, false, true, true, true, true, true, false, false, false, false, false, false, false, false, false, false, false, false] rfl rfl (by kernel_rfl) (fun _ _ _ h => h) (Or.inl ⟨by rfl, ?_⟩) ?_ ?_
    rotate_left
    · intro w'
      go_simp
      with_reducible rfl
    rotate_left
    · simp only [Act.put, List.setIfInBounds_toArray, List.set_cons_zero, List.set_cons_succ, i64_w, i32_w]
      rfl
    refine pure_ (i := 15) (N := some 38) (v := ?_) (a' := ?_) #[true, true, true, true, true, false, true, true, true, false, true, true, true, true, true, true, false, false, false, false, false, false, false, false, false, false, false] rfl rfl (by kernel_rfl) (fun _ _ _ h => h) (Or.inl ⟨by rfl, ?_⟩) ?_ ?_
    rotate_left
    · intro w'
      go_simp
      with_reducible rfl
    rotate_left
    · simp only [Act.put, List.setIfInBounds_toArray, List.set_cons_zero, List.set_cons_succ, i64_w, i32_w]
      rfl
    refine pure_ (i := 18) (N := some 41) (v := ?_) (a' := ?_) #[true, true, true, true, true, false, true, true, true, false, true, true, true, true, true, true, false, false, true, false, false, false, false, false, false, false, false] rfl rfl (by kernel_rfl) (fun _ _ _ h => h) (Or.inl ⟨by rfl, ?_⟩) ?_ ?_
    rotate_left
    · intro w'
      go_simp
      with_reducible rfl
    rotate_left
    · simp only [Act.put, List.setIfInBounds_toArray, List.set_cons_zero, List.set_cons_succ, i64_w, i32_w]
      rfl
    refine pure_ (i := 19) (N := some 42) (v := ?_) (a' := ?_) #[true, true, true, true, true, false, true, true, true, false, true, true, true, true, true, true, false, false, true, true, false, false, false, false, false, false, false] rfl rfl (by kernel_rfl) (fun _ _ _ h => h) (Or.inl ⟨by rfl, ?_⟩) ?_ ?_
    rotate_left
    · intro w'
      go_simp
      with_reducible rfl
    rotate_left
    · simp only [Act.put, List.setIfInBounds_toArray, List.set_cons_zero, List.set_cons_succ, i64_w, i32_w]
      rfl
    refine pure_ (i := 20) (N := some 43) (v := ?_) (a' := ?_) #[true, true, true, true, true, false, true, true, true, false, true, true, true, true, true, true, false, false, true, true, true, false, false, false, false, false, false] rfl rfl (by kernel_rfl) (fun _ _ _ h => h) (Or.inl ⟨by rfl, ?_⟩) ?_ ?_
    rotate_left
    · intro w'
      go_simp
      with_reducible rfl
    rotate_left
    · simp only [Act.put, List.setIfInBounds_toArray, List.set_cons_zero, List.set_cons_succ, i64_w, i32_w]
      rfl
    refine pure_ (i := 24) (N := some 47) (v := ?_) (a' := ?_) #[true, true, true, true, true, false, true, true, true, false, true, true, true, true, true, true, false, false, true, true, true, false, false, false, true, false, false] rfl rfl (by kernel_rfl) (fun _ _ _ h => h) (Or.inl ⟨by rfl, ?_⟩) ?_ ?_
    rotate_left
    · intro w'
      go_simp
      with_reducible rfl
    rotate_left
    · simp only [Act.put, List.setIfInBounds_toArray, List.set_cons_zero, List.set_cons_succ, i64_w, i32_w]
      rfl
    refine take_ (i := 5) (N := some 28) (v := ?_) (a' := ?_) #[true, true, true, true, true, true, true, true, true, false, true, true, true, true, true, true, false, false, true, true, true, false, false, false, true, false, false] rfl rfl (by kernel_rfl) (fun _ _ _ h => h) (Or.inl ⟨by rfl, ?_⟩) hHeld ?_ ?_
    rotate_left
    · rintro w' ⟨s0, s1, s2⟩
      go_simp
      with_reducible rfl
    rotate_left
    · simp only [Act.put, List.setIfInBounds_toArray, List.set_cons_zero, List.set_cons_succ, i64_w, i32_w]
      rfl
    refine take_ (i := 16) (N := some 39) (v := ?_) (a' := ?_) #[true, true, true, true, true, true, true, true, true, false, true, true, true, true, true, true, true, false, true, true, true, false, false, false, true, false, false] rfl rfl (by kernel_rfl) (fun _ _ _ h => h) (Or.inl ⟨by rfl, ?_⟩) hHeld ?_ ?_
    rotate_left
    · rintro w' ⟨s0, s1, s2⟩
      go_simp
      with_reducible rfl
    rotate_left
    · simp only [Act.put, List.setIfInBounds_toArray, List.set_cons_zero, List.set_cons_succ, i64_w, i32_w]
      rfl
    refine one_ (i := 9) (N := some 32) #[true, true, true, true, true, true, true, true, true, true, true, true, true, true, true, true, true, false, true, true, true, false, false, false, true, false, false] rfl rfl (by kernel_rfl) (by decide) (fun K hK => ?_)
    refine goes_ Tryd.func78 (by kernel_rfl) rfl #[.int .u32 (x15.toNat : Int), .int .i64 7, .int .i64 18, .int .u32 ((wShr x15 3).toNat : Int)] (by rfl) rfl rfl (by simp only [List.map_toArray, List.map_cons, List.map_nil]; rfl) ?_
    with_reducible refine ((S1 _)).mono ?_
    rintro e w5 ⟨rfl, rfl⟩
    refine ⟨_, rfl, ?_⟩
    refine hK.out _ _ ⟨c0, c9, f0⟩ (fun hHeld => ?_)
    clear hK K
    refine norm_ (a' := ?_) ?_ ?_
    rotate_left
    · show Act.put _ (some 32) _ = _
      simp only [Act.put, List.setIfInBounds_toArray, List.set_cons_zero, List.set_cons_succ, i64_w, i32_w]
      rfl
    refine pure_ (i := 17) (N := some 40) (v := ?_) (a' := ?_) #[true, true, true, true, true, true, true, true, true, true, true, true, true, true, true, true, true, true, true, true, true, false, false, false, true, false, false] rfl rfl (by kernel_rfl) (fun _ _ _ h => h) (Or.inl ⟨by rfl, ?_⟩) ?_ ?_
    rotate_left
    · intro w'
      go_simp
      with_reducible rfl
    rotate_left
    · simp only [Act.put, List.setIfInBounds_toArray, List.set_cons_zero, List.set_cons_succ, i64_w, i32_w]
      rfl
    refine one_ (i := 21) (N := some 44) #[true, true, true, true, true, true, true, true, true, true, true, true, true, true, true, true, true, true, true, true, true, true, false, false, true, false, false] rfl rfl (by kernel_rfl) (by decide) (fun K hK => ?_)
    refine goes_ Tryd.func78 (by kernel_rfl) rfl #[.int .u32 (x2.toNat : Int), .int .i64 17, .int .i64 19, .int .u32 ((wShr x2 10).toNat : Int)] (by rfl) rfl rfl (by simp only [List.map_toArray, List.map_cons, List.map_nil]; rfl) ?_
    with_reducible refine ((S2 _)).mono ?_
    rintro e w5 ⟨rfl, rfl⟩
    refine ⟨_, rfl, ?_⟩
    refine hK.out _ _ ⟨c0, c9, f0⟩ (fun hHeld => ?_)
    clear hK K
    refine norm_ (a' := ?_) ?_ ?_
    rotate_left
    · show Act.put _ (some 44) _ = _
      simp only [Act.put, List.setIfInBounds_toArray, List.set_cons_zero, List.set_cons_succ, i64_w, i32_w]
      rfl
    refine pure_ (i := 22) (N := some 45) (v := ?_) (a' := ?_) #[true, true, true, true, true, true, true, true, true, true, true, true, true, true, true, true, true, true, true, true, true, true, true, false, true, false, false] rfl rfl (by kernel_rfl) (fun _ _ _ h => h) (Or.inl ⟨by rfl, ?_⟩) ?_ ?_
    rotate_left
    · intro w'
      go_simp
      with_reducible rfl
    rotate_left
    · simp only [Act.put, List.setIfInBounds_toArray, List.set_cons_zero, List.set_cons_succ, i64_w, i32_w]
      rfl
    refine pure_ (i := 23) (N := some 46) (v := ?_) (a' := ?_) #[true, true, true, true, true, true, true, true, true, true, true, true, true, true, true, true, true, true, true, true, true, true, true, true, true, false, false] rfl rfl (by kernel_rfl) (fun _ _ _ h => h) (Or.inl ⟨by rfl, ?_⟩) ?_ ?_
    rotate_left
    · intro w'
      go_simp
      with_reducible rfl
    rotate_left
    · simp only [Act.put, List.setIfInBounds_toArray, List.set_cons_zero, List.set_cons_succ, i64_w, i32_w]
      rfl
    refine pure_ (i := 25) (N := some 48) (v := ?_) (a' := ?_) #[true, true, true, true, true, true, true, true, true, true, true, true, true, true, true, true, true, true, true, true, true, true, true, true, true, true, false] rfl rfl (by kernel_rfl) (fun _ _ _ h => h) (Or.inl ⟨by rfl, ?_⟩) ?_ ?_
    rotate_left
    · intro w'
      go_simp
      with_reducible rfl
    rotate_left
    · simp only [Act.put, List.setIfInBounds_toArray, List.set_cons_zero, List.set_cons_succ, i64_w, i32_w]
      rfl
    refine last_ (i := 26) (N := none) #[true, true, true, true, true, true, true, true, true, true, true, true, true, true, true, true, true, true, true, true, true, true, true, true, true, true, true] rfl rfl (by kernel_rfl) (by decide) (fun K hK => ?_)
    refine skip_ (w1 := ?_) (by rfl) rfl ?_ ?_
    rotate_left
    · go_simp
      rfl
    refine hK.out _ _ ?_
    clear hK K
    refine done_ (by kernel_rfl) ?_
    have HS := hr.set j0 (F i)
    have z0 := HS.cell j0 (by simp; omega)
    have ez : (r.set j0 (F i)).getD j0 0 = F i := by simp [List.getD_eq_getElem?_getD, show j0 < r.length by omega]
    rw [ez] at z0
    have HK := Keeps.set1 w g j0 (.int .u32 ((F i).toNat : Int))
    generalize w.setCell ⟨g, j0, none⟩ (.int .u32 ((F i).toNat : Int)) = W at *
    clear c0 c1 c9 c14 f0 A1 A2 A3 S1 S2 ez
    go_wp2
    go_ret
    exact ⟨rfl, HS, HK.drew.drew⟩
end Go.Proofs.YtmbgfjcmdolggaaDoor

/- The walk of eat: a block. -/
namespace Go.Proofs.YtmbgfjcmdolggaaDoor
open Go.RowKit PrintLast

/-- The table of the rounds' numbers, in its variable. -/
def Table (w : World) : Prop := ∃ t fr, w.heap[0]? = some (.cells (u32s roundK) t fr)
theorem Table.keeps {S : Nat → Prop} {w w' : World} (h : Table w) (hk : Keeps S w w') (hn : ¬ S 0) : Table w' := by
  obtain ⟨t, fr, h⟩ := h
  exact ⟨t, fr, hk.heap h hn⟩
theorem Table.below {w w' : World} (h : Table w) (hb : Below w.heap.size w w') : Table w' := h.keeps (S := fun _ => False) (Keeps.of_below hb) (fun e => e)
theorem Table.pos {w : World} (h : Table w) : 0 < w.heap.size := by
  obtain ⟨t, fr, h⟩ := h
  exact lt_of_block h

/-- A hasher: its state, the bytes that wait, how many came. -/
def HashAt (w : World) (b : Nat) (s : List UInt32) (R : Option Addr) (m c n : Nat) : Prop :=
  s.length = 8 ∧ w.heap[b]? = some (.cells (u32s s ++ #[.slice R m c, .int .u64 (n : Int)]) 114 (0, 0))

theorem u32s_append_get (l : List UInt32) (X : Array Value) (i : Nat) (h : i < l.length) : (u32s l ++ X)[i]? = some (.int .u32 ((l.getD i 0).toNat : Int)) := by
  rw [Array.getElem?_append_left (by rw [u32s_size]; exact h)]
  exact u32s_get l i h
theorem u32s_append_set (l : List UInt32) (X : Array Value) (i : Nat) (h : i < l.length) (x : UInt32) : (u32s l ++ X).setIfInBounds i (.int .u32 (x.toNat : Int)) = u32s (l.set i x) ++ X := by
  rw [← u32s_set]
  exact Array.setIfInBounds_append_left (by rw [u32s_size]; exact h)
theorem HashAt.cell {w : World} {b m c n : Nat} {R : Option Addr} {s : List UInt32} (h : HashAt w b s R m c n) (i : Nat) (hi : i < 8) : w.cell? ⟨b, i, none⟩ = some (.int .u32 ((s.getD i 0).toNat : Int)) :=
  cell_at h.2 (u32s_append_get s _ i (by rw [h.1]; exact hi))
theorem HashAt.free {w : World} {b m c n : Nat} {R : Option Addr} {s : List UInt32} (h : HashAt w b s R m c n) (i : Nat) : w.frozen? ⟨b, i, none⟩ = false := free_at h.2 i
theorem HashAt.set {w : World} {b m c n : Nat} {R : Option Addr} {s : List UInt32} (h : HashAt w b s R m c n) (i : Nat) (hi : i < 8) (x : UInt32) : HashAt (w.setCell ⟨b, i, none⟩ (.int .u32 (x.toNat : Int))) b (s.set i x) R m c n := by
  refine ⟨by simpa using h.1, ?_⟩
  rw [heap_set h.2, u32s_append_set s _ i (by rw [h.1]; exact hi)]
theorem HashAt.keeps {S : Nat → Prop} {w w' : World} {b m c n : Nat} {R : Option Addr} {s : List UInt32} (h : HashAt w b s R m c n) (hk : Keeps S w w') (hn : ¬ S b) : HashAt w' b s R m c n := ⟨h.1, hk.heap h.2 hn⟩
theorem HashAt.below {w w' : World} {b m c n : Nat} {R : Option Addr} {s : List UInt32} (h : HashAt w b s R m c n) (hb : Below w.heap.size w w') : HashAt w' b s R m c n := ⟨h.1, below_heap hb h.2⟩
/-- The first i words added. -/
def added (s f : List UInt32) (i : Nat) : List UInt32 := (List.zipWith wAdd s f).take i ++ s.drop i
theorem added_length {s f : List UInt32} (hs : s.length = 8) (hf : f.length = 8) {i : Nat} (hi : i ≤ 8) : (added s f i).length = 8 := by simp [added, hs, hf]; omega
theorem added_get {s f : List UInt32} (hs : s.length = 8) (hf : f.length = 8) {i : Nat} (hi : i < 8) : (added s f i).getD i 0 = s.getD i 0 := by
  simp [added, List.getD_eq_getElem?_getD, List.getElem?_append, hs, hf, show ¬ i < min i 8 by omega, show min i 8 = i by omega]
theorem added_next {s f : List UInt32} (hs : s.length = 8) (hf : f.length = 8) {i : Nat} (hi : i < 8) : (added s f i).set i (wAdd (s.getD i 0) (f.getD i 0)) = added s f (i + 1) := by
  obtain ⟨a, b, c, d, e, g, h, k, rfl⟩ := eight hs
  obtain ⟨a', b', c', d', e', g', h', k', rfl⟩ := eight hf
  have : i = 0 ∨ i = 1 ∨ i = 2 ∨ i = 3 ∨ i = 4 ∨ i = 5 ∨ i = 6 ∨ i = 7 := by omega
  rcases this with rfl | rfl | rfl | rfl | rfl | rfl | rfl | rfl <;> rfl
theorem added_all {s f : List UInt32} (hs : s.length = 8) (hf : f.length = 8) : added s f 8 = List.zipWith wAdd s f := by
  simp [added, hs, hf, List.take_of_length_le]

/-- The ring when k bytes are in it. -/
def ringBytes (p : List UInt8) (k : Nat) : List UInt32 := (List.range 16).map fun j => be (chunk (p.take k) j)
theorem ringBytes_length (p : List UInt8) (k : Nat) : (ringBytes p k).length = 16 := by simp [ringBytes]
theorem ringBytes_zero (p : List UInt8) : ringBytes p 0 = List.replicate 16 0 := by simp [ringBytes, chunk, be]; rfl
theorem ringBytes_all (p : List UInt8) (h : p.length = 64) : ringBytes p 64 = wordsOf p := by
  unfold ringBytes wordsOf
  rw [List.take_of_length_le (by omega)]
theorem chunk_other {p : List UInt8} {k j : Nat} (hk : k < p.length) (hj : j ≠ k / 4) : chunk (p.take (k + 1)) j = chunk (p.take k) j := by
  unfold chunk
  rw [List.take_succ_eq_append_getElem hk]
  by_cases h : 4 * j ≤ k
  · rw [List.drop_append_of_le_length (by simp; omega), List.take_append_of_le_length (by simp; omega)]
  · rw [List.drop_eq_nil_of_le (by simp; omega), List.drop_eq_nil_of_le (by simp; omega)]
theorem chunk_own {p : List UInt8} {k : Nat} (hk : k < p.length) : chunk (p.take (k + 1)) (k / 4) = chunk (p.take k) (k / 4) ++ [p[k]] := by
  unfold chunk
  rw [List.take_succ_eq_append_getElem hk, List.drop_append_of_le_length (by simp; omega)]
  have e1 : ((p.take k).drop (4 * (k / 4)) ++ [p[k]]).length ≤ 4 := by simp; omega
  have e2 : ((p.take k).drop (4 * (k / 4))).length ≤ 4 := by simp; omega
  rw [List.take_of_length_le e1, List.take_of_length_le e2]
theorem be_append (l : List UInt8) (b : UInt8) : be (l ++ [b]) = wOr (wShl (be l) 8) b.toUInt32 := by simp [be]
theorem ringBytes_get (p : List UInt8) (k j : Nat) (hj : j < 16) : (ringBytes p k).getD j 0 = be (chunk (p.take k) j) := by
  simp [ringBytes, List.getD_eq_getElem?_getD, hj]
theorem ringBytes_next {p : List UInt8} {k : Nat} (hk : k < p.length) (h64 : p.length = 64) : ringBytes p (k + 1) = (ringBytes p k).set (k / 4) (wOr (wShl ((ringBytes p k).getD (k / 4) 0) 8) p[k].toUInt32) := by
  rw [ringBytes_get p k (k / 4) (by omega), ← be_append, ← chunk_own hk]
  apply List.ext_getElem
  · simp [ringBytes]
  · intro j h1 h2
    have hj : j < 16 := by simpa [ringBytes] using h1
    rw [List.getElem_set]
    by_cases e : k / 4 = j
    · subst e
      simp [ringBytes]
    · rw [if_neg e]
      simp only [ringBytes, List.getElem_map, List.getElem_range]
      rw [chunk_other hk (fun e' => e e'.symm)]

theorem word_byte (x : UInt32) (b : UInt8) : bits .or .u32 ((wShl x 8).toNat : Int) (b.toNat : Int) = ((wOr (wShl x 8) b.toUInt32).toNat : Int) := by
  rw [← word_or, UInt8.toNat_toUInt32]

theorem infoU32 : (Tryd.prog.info? 94).map (·.size) = some 1 := by kernel_rfl
theorem index64 {w : World} (l : List UInt32) (hl : l.length = 64) (k : Nat) (hk : k < 64) : (Instr.index 95 (.agg (u32s l)) (.int .i64 (k : Int))).run Tryd.prog w = .ok (.int .u32 ((l.getD k 0).toNat : Int)) w := by
  obtain ⟨j, hj, hs⟩ := Option.map_eq_some_iff.1 infoU32
  exact run_index_words Tryd.underlying95 (by kernel_rfl) hj hs l hl k hk

theorem word_byte8 (y : UInt32) (b : UInt8) : bits .or .u32 ((y.toNat : Int) * 256 % 4294967296) ((b.toNat : Int) % 4294967296) = ((wOr (wShl y 8) b.toUInt32).toNat : Int) := by
  rw [← word_byte, ← word_shl y 8 (by omega)]
  have := b.toNat_lt
  rw [Int.emod_eq_of_lt (a := (b.toNat : Int)) (by omega) (by omega)]
  rfl

set_option maxRecDepth 100000 in
set_option maxHeartbeats 1600000 in
theorem eat_any {w : World} {b m c n c' : Nat} {R A : Option Addr} {s : List UInt32} {p : List UInt8} (hT : Table w) (hh : HashAt w b s R m c n) (hp : BSA w A c' p) (h64 : p.length = 64) :
    Calls Tryd.prog 72 #[.pointer (some ⟨b, 0, none⟩), .slice A 64 c'] w fun e w' => e = .returned (.tuple #[]) ∧ HashAt w' b (comp (wordsOf p) s) R m c n ∧ Keeps (fun j => j = b) w w' := by
  have hb := lt_of_block hh.2
  have hpb : ∀ ad, A = some ad → ad.block < w.heap.size := fun ad e => by
    have := World.block_lt_of_cell? w _ (hp.2.2.2 ad e 0 (by omega))
    have e0 : (ad.add 0).block = ad.block := by unfold Addr.add; split <;> rfl
    omega
  have H64 := hid h64
  obtain ⟨m16, hm0⟩ : ∃ l, l = wordsOf p := ⟨_, rfl⟩
  have l16 : m16.length = 16 := by rw [hm0]; exact wordsOf_length p
  obtain ⟨s0, s1, s2, s3, s4, s5, s6, s7, rfl⟩ := eight hh.1
  rw [← hm0]
  have hm16 := hid hm0
  clear hm0
  have z16 : #[Value.int .u32 0, .int .u32 0, .int .u32 0, .int .u32 0, .int .u32 0, .int .u32 0, .int .u32 0, .int .u32 0, .int .u32 0, .int .u32 0, .int .u32 0, .int .u32 0, .int .u32 0, .int .u32 0, .int .u32 0, .int .u32 0] = u32s (ringBytes p 0) := by rw [ringBytes_zero]; rfl
  have K0 : Keeps (fun j => j = w.heap.size) w (w.alloc (.cells (u32s (ringBytes p 0)) 125)) := (Keeps.refl _ w).alloc _
  have R0 : WordsAt (w.alloc (.cells (u32s (ringBytes p 0)) 125)) w.heap.size (ringBytes p 0) 125 := heap_alloc_new w _
  have pw : ∀ ad, A = some ad → ad.block ≠ w.heap.size := fun ad e => by have := hpb ad e; omega
  obtain ⟨g1, hg1⟩ : ∃ g, g = w.heap.size := ⟨_, rfl⟩
  rw [← hg1] at K0 R0 pw
  have G1 := hid hg1
  clear h64
  go_enter Tryd.func72, Tryd.ntmps72
  go_wp2
  rw [← hg1]
  clear z16 hg1
  go_loopw [15] (fun i wr => ∃ k : Nat, k ≤ 64 ∧ i = .int .i64 k ∧ WordsAt wr g1 (ringBytes p k) 125 ∧ Keeps (fun j => j = g1) w wr) (fun i _ => 64 - (intOf i).toNat)
  case atStart => exact ⟨0, Nat.zero_le _, rfl, R0, K0⟩
  case round =>
    clear K0 R0
    obtain ⟨k, hk, rfl, hR, hK⟩ := hrel
    by_cases hlt : k < 64
    · have hk' : k < p.length := by rw [H64.out]; exact hlt
      obtain ⟨ad, rfl, cx⟩ := hp.cell k hk'
      have cy := hK.cell cx (by have e0 : (ad.add k).block = ad.block := by unfold Addr.add; split <;> rfl
                                rw [e0]; exact pw ad rfl)
      have q4 : (k : Int).tdiv 4 = ((k / 4 : Nat) : Int) := by rw [Int.tdiv_eq_ediv_of_nonneg (by omega)]; omega
      obtain ⟨y, hy⟩ : ∃ y, y = (ringBytes p k).getD (k / 4) 0 := ⟨_, rfl⟩
      have c4 := hR.cell (k / 4) (by rw [ringBytes_length]; omega)
      have f4 := hR.free (k / 4)
      have HR := hid (hR.set (k / 4) (wOr (wShl y 8) p[k].toUInt32))
      rw [hy, ← ringBytes_next hk' H64.out, ← hy] at HR
      rw [← hy] at c4
      have B8 := word_byte8 y p[k]
      obtain ⟨z, hz⟩ : ∃ z, z = wOr (wShl y 8) p[k].toUInt32 := ⟨_, rfl⟩
      rw [← hz] at B8 HR
      have HK := hid (hK.then (Keeps.set1 wr g1 (k / 4) (.int .u32 (z.toNat : Int))) (fun _ _ e => e))
      clear hR hK cx hy hz
      go_wp2
      exact ⟨⟨k + 1, by omega, by go_num, HR.out, HK.out⟩, by simp [intOf]; omega⟩
    · have hk64 : k = 64 := by omega
      subst hk64
      rw [ringBytes_all p H64.out] at hR
      rw [← hm16.out] at hR
      have hh2 : w.heap[b]? = some (.cells #[.int .u32 (s0.toNat : Int), .int .u32 (s1.toNat : Int), .int .u32 (s2.toNat : Int), .int .u32 (s3.toNat : Int), .int .u32 (s4.toNat : Int), .int .u32 (s5.toNat : Int), .int .u32 (s6.toNat : Int), .int .u32 (s7.toNat : Int), .slice R m c, .int .u64 (n : Int)] 114 (0, 0)) := hh.2
      have hb1 : ¬ b = g1 := by have := G1.out; omega
      have hr2 := hK.heap hh2 hb1
      have x0 := cell_at hr2 (i := 0) (v := .int .u32 (s0.toNat : Int)) rfl
      have x1 := cell_at hr2 (i := 1) (v := .int .u32 (s1.toNat : Int)) rfl
      have x2 := cell_at hr2 (i := 2) (v := .int .u32 (s2.toNat : Int)) rfl
      have x3 := cell_at hr2 (i := 3) (v := .int .u32 (s3.toNat : Int)) rfl
      have x4 := cell_at hr2 (i := 4) (v := .int .u32 (s4.toNat : Int)) rfl
      have x5 := cell_at hr2 (i := 5) (v := .int .u32 (s5.toNat : Int)) rfl
      have x6 := cell_at hr2 (i := 6) (v := .int .u32 (s6.toNat : Int)) rfl
      have x7 := cell_at hr2 (i := 7) (v := .int .u32 (s7.toNat : Int)) rfl
      obtain ⟨tT, frT, hT0⟩ := (hT.keeps hK (by have := hT.pos; have := G1.out; omega)).below (below_alloc (Below.refl _ wr) (.cells #[.int .u32 (s0.toNat : Int), .int .u32 (s1.toNat : Int), .int .u32 (s2.toNat : Int), .int .u32 (s3.toNat : Int), .int .u32 (s4.toNat : Int), .int .u32 (s5.toNat : Int), .int .u32 (s6.toNat : Int), .int .u32 (s7.toNat : Int)] 112))
      have hBW : Below w.heap.size w wr := ⟨hK.os, hK.tape, hK.output, hK.size, fun j hj => hK.block j hj (by have := G1.out; omega)⟩
      have R2 := heap_alloc_new wr (.cells #[.int .u32 (s0.toNat : Int), .int .u32 (s1.toNat : Int), .int .u32 (s2.toNat : Int), .int .u32 (s3.toNat : Int), .int .u32 (s4.toNat : Int), .int .u32 (s5.toNat : Int), .int .u32 (s6.toNat : Int), .int .u32 (s7.toNat : Int)] 112)
      have R2' : WordsAt (wr.alloc (.cells #[.int .u32 (s0.toNat : Int), .int .u32 (s1.toNat : Int), .int .u32 (s2.toNat : Int), .int .u32 (s3.toNat : Int), .int .u32 (s4.toNat : Int), .int .u32 (s5.toNat : Int), .int .u32 (s6.toNat : Int), .int .u32 (s7.toNat : Int)] 112)) wr.heap.size (rounds m16 0 [s0, s1, s2, s3, s4, s5, s6, s7]) 112 := R2
      have R1' := hR.below (below_alloc (Below.refl _ wr) (.cells #[.int .u32 (s0.toNat : Int), .int .u32 (s1.toNat : Int), .int .u32 (s2.toNat : Int), .int .u32 (s3.toNat : Int), .int .u32 (s4.toNat : Int), .int .u32 (s5.toNat : Int), .int .u32 (s6.toNat : Int), .int .u32 (s7.toNat : Int)] 112))
      have hBW' := below_alloc hBW (.cells #[.int .u32 (s0.toNat : Int), .int .u32 (s1.toNat : Int), .int .u32 (s2.toNat : Int), .int .u32 (s3.toNat : Int), .int .u32 (s4.toNat : Int), .int .u32 (s5.toNat : Int), .int .u32 (s6.toNat : Int), .int .u32 (s7.toNat : Int)] 112)
      have RA : RingAt (W m16) 0 m16 := RingAt.start _ _ l16 (fun t ht => W_low l16 ht)
      have g12 : ¬ wr.heap.size = g1 := by have := lt_of_block hR; omega
      have g2w : w.heap.size ≤ wr.heap.size := hBW.size
      have g1w : w.heap.size ≤ g1 := by have := G1.out; omega
      have L8 : ([s0, s1, s2, s3, s4, s5, s6, s7] : List UInt32).length = 8 := rfl
      have HW := hid (fun i h h' => W_next (m := m16) l16 (i := i) h h')
      have HH := hid hh
      clear hm16 hpb pw hh hr2 hK hT R2 hBW hR
      go_wp2_with (refine wpList_load_row rfl 95 (.global 0) rfl 0 rfl tT (u32s roundK) frT _ hT0 Tryd.underlying95 rfl (by kernel_rfl) ?_)
      generalize wr.alloc (.cells #[.int .u32 (s0.toNat : Int), .int .u32 (s1.toNat : Int), .int .u32 (s2.toNat : Int), .int .u32 (s3.toNat : Int), .int .u32 (s4.toNat : Int), .int .u32 (s5.toNat : Int), .int .u32 (s6.toNat : Int), .int .u32 (s7.toNat : Int)] 112) = W2 at *
      generalize wr.heap.size = g2 at *
      clear x0 x1 x2 x3 x4 x5 x6 x7 hT0
      go_loopw [37] (fun i wx => ∃ k : Nat, k ≤ 64 ∧ i = .int .i64 k ∧ (∃ r, WordsAt wx g1 r 125 ∧ RingAt (W m16) k r) ∧ WordsAt wx g2 (rounds m16 k [s0, s1, s2, s3, s4, s5, s6, s7]) 112 ∧ Below w.heap.size w wx) (fun i _ => 64 - (intOf i).toNat)
      case atStart => exact ⟨0, Nat.zero_le _, rfl, ⟨m16, R1', RA⟩, R2', hBW'⟩
      case round =>
        clear R1' RA R2' hBW'
        obtain ⟨k, hk, rfl, ⟨r, hR, hRA⟩, hS, hB⟩ := hrel
        by_cases hlt : k < 64
        · obtain ⟨a, b', c₂, d, e, f, g, h, hst⟩ := eight (rounds_length m16 L8 k)
          have hnx := hid (show rounds m16 (k + 1) [s0, s1, s2, s3, s4, s5, s6, s7] = step (roundK.getD k 0) (W m16 k) [a, b', c₂, d, e, f, g, h] by rw [← hst]; rfl)
          rw [hst] at hS
          have i0 : ∀ w : World, (Instr.index 95 (.agg (u32s roundK)) (.int .i64 (k : Int))).run Tryd.prog w = .ok (.int .u32 ((roundK.getD k 0).toNat : Int)) w := fun w => index64 roundK rfl k hlt
          obtain ⟨kk, hkk⟩ : ∃ kk, kk = roundK.getD k 0 := ⟨_, rfl⟩
          rw [← hkk] at i0 hnx
          have y0 := hS.cell 0 (by simp)
          have y1 := hS.cell 1 (by simp)
          have y2 := hS.cell 2 (by simp)
          have y3 := hS.cell 3 (by simp)
          have y4 := hS.cell 4 (by simp)
          have y5 := hS.cell 5 (by simp)
          have y6 := hS.cell 6 (by simp)
          have y7 := hS.cell 7 (by simp)
          simp only [List.getD_cons_zero, List.getD_cons_succ] at y0 y1 y2 y3 y4 y5 y6 y7
          have C1 : ∀ w : World, Calls Tryd.prog 79 #[.int .u32 (e.toNat : Int), .int .i64 (-25)] w fun e' w' => e' = .returned (.int .u32 ((rotr e 25).toNat : Int)) ∧ w = w' := fun w => rotl_any (n := 25) (by omega) (by omega)
          have C2 : ∀ w : World, Calls Tryd.prog 78 #[.int .u32 (e.toNat : Int), .int .i64 6, .int .i64 11, .int .u32 ((rotr e 25).toNat : Int)] w fun e' w' => e' = .returned (.int .u32 ((wXor (wXor (rotr e 6) (rotr e 11)) (rotr e 25)).toNat : Int)) ∧ w = w' := fun w => spread_any (a := 6) (b := 11) ⟨by omega, by omega⟩ ⟨by omega, by omega⟩
          have C3 := hid (word_any (w := wr.drew) (i := k) hlt hR hRA HW.out)
          have X1 := word_xor f g
          have X2 := word_and e (wXor f g)
          have X3 := word_xor g (wAnd e (wXor f g))
          rw [choice_eq] at X3
          obtain ⟨SS, hSS⟩ : ∃ x, x = wXor (wXor (rotr e 6) (rotr e 11)) (rotr e 25) := ⟨_, rfl⟩
          obtain ⟨CC, hCC⟩ : ∃ x, x = choice e f g := ⟨_, rfl⟩
          obtain ⟨WK, hWK⟩ : ∃ x, x = W m16 k := ⟨_, rfl⟩
          have hT : roundT kk WK e f g h = wAdd (wAdd (wAdd (wAdd h SS) CC) kk) WK := by rw [hSS, hCC]; rfl
          rw [← hSS] at C2
          rw [← hCC] at X3
          rw [← hWK] at C3 hnx
          have A1 := word_addW h SS
          have A2 := word_addW (wAdd h SS) CC
          have A3 := word_addW (wAdd (wAdd h SS) CC) kk
          have A4 := word_addW (wAdd (wAdd (wAdd h SS) CC) kk) WK
          rw [← hT] at A4
          clear hst hkk hSS hCC hWK hT
          go_wp2
          refine start_ (n := 27) (S := fun w' => w'.cell? ⟨g2, 4, none⟩ = some (.int .u32 (e.toNat : Int)) ∧ w'.cell? ⟨g2, 5, none⟩ = some (.int .u32 (f.toNat : Int)) ∧ w'.cell? ⟨g2, 6, none⟩ = some (.int .u32 (g.toNat : Int)) ∧ w'.cell? ⟨g2, 7, none⟩ = some (.int .u32 (h.toNat : Int))) (ds := []) #[false, false, false, false, false, false, false, false, false, false, false, false, false, false, false, false, false, false, false, false, false, false, false, false, false, false, false] (by kernel_rfl) rfl rfl ⟨y4, y5, y6, y7⟩ (fun hHeld => ?_)
          refine pure_ (i := 0) (N := some 41) (v := ?_) (a' := ?_) #[true, false, false, false, false, false, false, false, false, false, false, false, false, false, false, false, false, false, false, false, false, false, false, false, false, false, false] rfl rfl (by kernel_rfl) (fun _ _ _ h => h) (Or.inl ⟨by rfl, ?_⟩) ?_ ?_
          rotate_left
          · intro w'
            go_simp
            with_reducible rfl
          rotate_left
          · simp only [Act.put, List.setIfInBounds_toArray, List.set_cons_zero, List.set_cons_succ, i64_w, i32_w]
            rfl
          refine pure_ (i := 2) (N := some 43) (v := ?_) (a' := ?_) #[true, false, true, false, false, false, false, false, false, false, false, false, false, false, false, false, false, false, false, false, false, false, false, false, false, false, false] rfl rfl (by kernel_rfl) (fun _ _ _ h => h) (Or.inl ⟨by rfl, ?_⟩) ?_ ?_
          rotate_left
          · intro w'
            go_simp
            with_reducible rfl
          rotate_left
          · simp only [Act.put, List.setIfInBounds_toArray, List.set_cons_zero, List.set_cons_succ, i64_w, i32_w]
            rfl
          refine pure_ (i := 4) (N := some 45) (v := ?_) (a' := ?_) #[true, false, true, false, true, false, false, false, false, false, false, false, false, false, false, false, false, false, false, false, false, false, false, false, false, false, false] rfl rfl (by kernel_rfl) (fun _ _ _ h => h) (Or.inl ⟨by rfl, ?_⟩) ?_ ?_
          rotate_left
          · intro w'
            go_simp
            with_reducible rfl
          rotate_left
          · simp only [Act.put, List.setIfInBounds_toArray, List.set_cons_zero, List.set_cons_succ, i64_w, i32_w]
            rfl
          refine pure_ (i := 9) (N := some 50) (v := ?_) (a' := ?_) #[true, false, true, false, true, false, false, false, false, true, false, false, false, false, false, false, false, false, false, false, false, false, false, false, false, false, false] rfl rfl (by kernel_rfl) (fun _ _ _ h => h) (Or.inl ⟨by rfl, ?_⟩) ?_ ?_
          rotate_left
          · intro w'
            go_simp
            with_reducible rfl
          rotate_left
          · simp only [Act.put, List.setIfInBounds_toArray, List.set_cons_zero, List.set_cons_succ, i64_w, i32_w]
            rfl
          refine pure_ (i := 11) (N := some 52) (v := ?_) (a' := ?_) #[true, false, true, false, true, false, false, false, false, true, false, true, false, false, false, false, false, false, false, false, false, false, false, false, false, false, false] rfl rfl (by kernel_rfl) (fun _ _ _ h => h) (Or.inl ⟨by rfl, ?_⟩) ?_ ?_
          rotate_left
          · intro w'
            go_simp
            with_reducible rfl
          rotate_left
          · simp only [Act.put, List.setIfInBounds_toArray, List.set_cons_zero, List.set_cons_succ, i64_w, i32_w]
            rfl
          refine pure_ (i := 13) (N := some 54) (v := ?_) (a' := ?_) #[true, false, true, false, true, false, false, false, false, true, false, true, false, true, false, false, false, false, false, false, false, false, false, false, false, false, false] rfl rfl (by kernel_rfl) (fun _ _ _ h => h) (Or.inl ⟨by rfl, ?_⟩) ?_ ?_
          rotate_left
          · intro w'
            go_simp
            with_reducible rfl
          rotate_left
          · simp only [Act.put, List.setIfInBounds_toArray, List.set_cons_zero, List.set_cons_succ, i64_w, i32_w]
            rfl
          refine pure_ (i := 15) (N := some 56) (v := ?_) (a' := ?_) #[true, false, true, false, true, false, false, false, false, true, false, true, false, true, false, true, false, false, false, false, false, false, false, false, false, false, false] rfl rfl (by kernel_rfl) (fun _ _ _ h => h) (Or.inl ⟨by rfl, ?_⟩) ?_ ?_
          rotate_left
          · intro w'
            go_simp
            with_reducible rfl
          rotate_left
          · simp only [Act.put, List.setIfInBounds_toArray, List.set_cons_zero, List.set_cons_succ, i64_w, i32_w]
            rfl
          refine pure_ (i := 21) (N := some 62) (v := ?_) (a' := ?_) #[true, false, true, false, true, false, false, false, false, true, false, true, false, true, false, true, false, false, false, false, false, true, false, false, false, false, false] rfl rfl (by kernel_rfl) (fun _ _ _ h => h) (Or.inl ⟨by rfl, ?_⟩) ?_ ?_
          rotate_left
          · intro w'
            go_simp
            with_reducible rfl
          rotate_left
          · simp only [Act.put, List.setIfInBounds_toArray, List.set_cons_zero, List.set_cons_succ, i64_w, i32_w]
            rfl
          refine pure_ (i := 23) (N := some 64) (v := ?_) (a' := ?_) #[true, false, true, false, true, false, false, false, false, true, false, true, false, true, false, true, false, false, false, false, false, true, false, true, false, false, false] rfl rfl (by kernel_rfl) (fun _ _ _ h => h) (Or.inl ⟨by rfl, ?_⟩) ?_ ?_
          rotate_left
          · intro w'
            go_simp
            with_reducible rfl
          rotate_left
          · simp only [Act.put, List.setIfInBounds_toArray, List.set_cons_zero, List.set_cons_succ, i64_w, i32_w]
            rfl
          refine take_ (i := 1) (N := some 42) (v := ?_) (a' := ?_) #[true, true, true, false, true, false, false, false, false, true, false, true, false, true, false, true, false, false, false, false, false, true, false, true, false, false, false] rfl rfl (by kernel_rfl) (fun _ _ _ h => h) (Or.inl ⟨by rfl, ?_⟩) hHeld ?_ ?_
          rotate_left
          · rintro w' ⟨s0, s1, s2, s3⟩
            go_simp
            with_reducible rfl
          rotate_left
          · simp only [Act.put, List.setIfInBounds_toArray, List.set_cons_zero, List.set_cons_succ, i64_w, i32_w]
            rfl
          refine take_ (i := 3) (N := some 44) (v := ?_) (a' := ?_) #[true, true, true, true, true, false, false, false, false, true, false, true, false, true, false, true, false, false, false, false, false, true, false, true, false, false, false] rfl rfl (by kernel_rfl) (fun _ _ _ h => h) (Or.inl ⟨by rfl, ?_⟩) hHeld ?_ ?_
          rotate_left
          · rintro w' ⟨s0, s1, s2, s3⟩
            go_simp
            with_reducible rfl
          rotate_left
          · simp only [Act.put, List.setIfInBounds_toArray, List.set_cons_zero, List.set_cons_succ, i64_w, i32_w]
            rfl
          refine take_ (i := 5) (N := some 46) (v := ?_) (a' := ?_) #[true, true, true, true, true, true, false, false, false, true, false, true, false, true, false, true, false, false, false, false, false, true, false, true, false, false, false] rfl rfl (by kernel_rfl) (fun _ _ _ h => h) (Or.inl ⟨by rfl, ?_⟩) hHeld ?_ ?_
          rotate_left
          · rintro w' ⟨s0, s1, s2, s3⟩
            go_simp
            with_reducible rfl
          rotate_left
          · simp only [Act.put, List.setIfInBounds_toArray, List.set_cons_zero, List.set_cons_succ, i64_w, i32_w]
            rfl
          refine take_ (i := 10) (N := some 51) (v := ?_) (a' := ?_) #[true, true, true, true, true, true, false, false, false, true, true, true, false, true, false, true, false, false, false, false, false, true, false, true, false, false, false] rfl rfl (by kernel_rfl) (fun _ _ _ h => h) (Or.inl ⟨by rfl, ?_⟩) hHeld ?_ ?_
          rotate_left
          · rintro w' ⟨s0, s1, s2, s3⟩
            go_simp
            with_reducible rfl
          rotate_left
          · simp only [Act.put, List.setIfInBounds_toArray, List.set_cons_zero, List.set_cons_succ, i64_w, i32_w]
            rfl
          refine take_ (i := 12) (N := some 53) (v := ?_) (a' := ?_) #[true, true, true, true, true, true, false, false, false, true, true, true, true, true, false, true, false, false, false, false, false, true, false, true, false, false, false] rfl rfl (by kernel_rfl) (fun _ _ _ h => h) (Or.inl ⟨by rfl, ?_⟩) hHeld ?_ ?_
          rotate_left
          · rintro w' ⟨s0, s1, s2, s3⟩
            go_simp
            with_reducible rfl
          rotate_left
          · simp only [Act.put, List.setIfInBounds_toArray, List.set_cons_zero, List.set_cons_succ, i64_w, i32_w]
            rfl
          refine take_ (i := 14) (N := some 55) (v := ?_) (a' := ?_) #[true, true, true, true, true, true, false, false, false, true, true, true, true, true, true, true, false, false, false, false, false, true, false, true, false, false, false] rfl rfl (by kernel_rfl) (fun _ _ _ h => h) (Or.inl ⟨by rfl, ?_⟩) hHeld ?_ ?_
          rotate_left
          · rintro w' ⟨s0, s1, s2, s3⟩
            go_simp
            with_reducible rfl
          rotate_left
          · simp only [Act.put, List.setIfInBounds_toArray, List.set_cons_zero, List.set_cons_succ, i64_w, i32_w]
            rfl
          refine take_ (i := 16) (N := some 57) (v := ?_) (a' := ?_) #[true, true, true, true, true, true, false, false, false, true, true, true, true, true, true, true, true, false, false, false, false, true, false, true, false, false, false] rfl rfl (by kernel_rfl) (fun _ _ _ h => h) (Or.inl ⟨by rfl, ?_⟩) hHeld ?_ ?_
          rotate_left
          · rintro w' ⟨s0, s1, s2, s3⟩
            go_simp
            with_reducible rfl
          rotate_left
          · simp only [Act.put, List.setIfInBounds_toArray, List.set_cons_zero, List.set_cons_succ, i64_w, i32_w]
            rfl
          refine pure_ (i := 17) (N := some 58) (v := ?_) (a' := ?_) #[true, true, true, true, true, true, false, false, false, true, true, true, true, true, true, true, true, true, false, false, false, true, false, true, false, false, false] rfl rfl (by kernel_rfl) (fun _ _ _ h => h) (Or.inl ⟨by rfl, ?_⟩) ?_ ?_
          rotate_left
          · intro w'
            go_simp
            with_reducible rfl
          rotate_left
          · simp only [Act.put, List.setIfInBounds_toArray, List.set_cons_zero, List.set_cons_succ, i64_w, i32_w]
            rfl
          refine pure_ (i := 18) (N := some 59) (v := ?_) (a' := ?_) #[true, true, true, true, true, true, false, false, false, true, true, true, true, true, true, true, true, true, true, false, false, true, false, true, false, false, false] rfl rfl (by kernel_rfl) (fun _ _ _ h => h) (Or.inl ⟨by rfl, ?_⟩) ?_ ?_
          rotate_left
          · intro w'
            go_simp
            with_reducible rfl
          rotate_left
          · simp only [Act.put, List.setIfInBounds_toArray, List.set_cons_zero, List.set_cons_succ, i64_w, i32_w]
            rfl
          refine pure_ (i := 19) (N := some 60) (v := ?_) (a' := ?_) #[true, true, true, true, true, true, false, false, false, true, true, true, true, true, true, true, true, true, true, true, false, true, false, true, false, false, false] rfl rfl (by kernel_rfl) (fun _ _ _ h => h) (Or.inl ⟨by rfl, ?_⟩) ?_ ?_
          rotate_left
          · intro w'
            go_simp
            with_reducible rfl
          rotate_left
          · simp only [Act.put, List.setIfInBounds_toArray, List.set_cons_zero, List.set_cons_succ, i64_w, i32_w]
            rfl
          refine one_ (i := 6) (N := some 47) #[true, true, true, true, true, true, true, false, false, true, true, true, true, true, true, true, true, true, true, true, false, true, false, true, false, false, false] rfl rfl (by kernel_rfl) (by decide) (fun K hK => ?_)
          refine goes_ Tryd.func79 (by kernel_rfl) rfl #[.int .u32 (e.toNat : Int), .int .i64 (-25)] (by rfl) rfl rfl (by simp only [List.map_toArray, List.map_cons, List.map_nil]; rfl) ?_
          with_reducible refine ((C1 _)).mono ?_
          rintro e' w5 ⟨rfl, rfl⟩
          refine ⟨_, rfl, ?_⟩
          refine hK.out _ _ ⟨y4, y5, y6, y7⟩ (fun hHeld => ?_)
          clear hK K
          refine norm_ (a' := ?_) ?_ ?_
          rotate_left
          · show Act.put _ (some 47) _ = _
            simp only [Act.put, List.setIfInBounds_toArray, List.set_cons_zero, List.set_cons_succ, i64_w, i32_w]
            rfl
          refine one_ (i := 7) (N := some 48) #[true, true, true, true, true, true, true, true, false, true, true, true, true, true, true, true, true, true, true, true, false, true, false, true, false, false, false] rfl rfl (by kernel_rfl) (by decide) (fun K hK => ?_)
          refine goes_ Tryd.func78 (by kernel_rfl) rfl #[.int .u32 (e.toNat : Int), .int .i64 6, .int .i64 11, .int .u32 ((rotr e 25).toNat : Int)] (by rfl) rfl rfl (by simp only [List.map_toArray, List.map_cons, List.map_nil]; rfl) ?_
          with_reducible refine ((C2 _)).mono ?_
          rintro e' w5 ⟨rfl, rfl⟩
          refine ⟨_, rfl, ?_⟩
          refine hK.out _ _ ⟨y4, y5, y6, y7⟩ (fun hHeld => ?_)
          clear hK K
          refine norm_ (a' := ?_) ?_ ?_
          rotate_left
          · show Act.put _ (some 48) _ = _
            simp only [Act.put, List.setIfInBounds_toArray, List.set_cons_zero, List.set_cons_succ, i64_w, i32_w]
            rfl
          refine pure_ (i := 8) (N := some 49) (v := ?_) (a' := ?_) #[true, true, true, true, true, true, true, true, true, true, true, true, true, true, true, true, true, true, true, true, false, true, false, true, false, false, false] rfl rfl (by kernel_rfl) (fun _ _ _ h => h) (Or.inl ⟨by rfl, ?_⟩) ?_ ?_
          rotate_left
          · intro w'
            go_simp
            with_reducible rfl
          rotate_left
          · simp only [Act.put, List.setIfInBounds_toArray, List.set_cons_zero, List.set_cons_succ, i64_w, i32_w]
            rfl
          refine pure_ (i := 20) (N := some 61) (v := ?_) (a' := ?_) #[true, true, true, true, true, true, true, true, true, true, true, true, true, true, true, true, true, true, true, true, true, true, false, true, false, false, false] rfl rfl (by kernel_rfl) (fun _ _ _ h => h) (Or.inl ⟨by rfl, ?_⟩) ?_ ?_
          rotate_left
          · intro w'
            go_simp
            with_reducible rfl
          rotate_left
          · simp only [Act.put, List.setIfInBounds_toArray, List.set_cons_zero, List.set_cons_succ, i64_w, i32_w]
            rfl
          refine pure_ (i := 22) (N := some 63) (v := ?_) (a' := ?_) #[true, true, true, true, true, true, true, true, true, true, true, true, true, true, true, true, true, true, true, true, true, true, true, true, false, false, false] rfl rfl (by kernel_rfl) (fun _ _ _ h => h) (Or.inl ⟨by rfl, ?_⟩) ?_ ?_
          rotate_left
          · intro w'
            go_simp
            with_reducible rfl
          rotate_left
          · simp only [Act.put, List.setIfInBounds_toArray, List.set_cons_zero, List.set_cons_succ, i64_w, i32_w]
            rfl
          refine one_ (i := 24) (N := some 65) #[true, true, true, true, true, true, true, true, true, true, true, true, true, true, true, true, true, true, true, true, true, true, true, true, true, false, false] rfl rfl (by kernel_rfl) (by decide) (fun K hK => ?_)
          refine goes_ Tryd.func80 (by kernel_rfl) rfl #[.pointer (some ⟨g1, 0, none⟩), .int .i64 (k : Int)] (by rfl) rfl rfl (by simp only [List.map_toArray, List.map_cons, List.map_nil]; rfl) ?_
          with_reducible refine (C3.out).mono ?_
          rintro e' w5 ⟨rfl, hR5, hK5⟩
          refine ⟨_, rfl, ?_⟩
          refine hK.out _ _ ⟨hK5.cell y4 g12, hK5.cell y5 g12, hK5.cell y6 g12, hK5.cell y7 g12⟩ (fun hHeld => ?_)
          clear hK K
          refine norm_ (a' := ?_) ?_ ?_
          rotate_left
          · show Act.put _ (some 65) _ = _
            simp only [Act.put, List.setIfInBounds_toArray, List.set_cons_zero, List.set_cons_succ, i64_w, i32_w]
            rfl
          refine pure_ (i := 25) (N := some 66) (v := ?_) (a' := ?_) #[true, true, true, true, true, true, true, true, true, true, true, true, true, true, true, true, true, true, true, true, true, true, true, true, true, true, false] rfl rfl (by kernel_rfl) (fun _ _ _ h => h) (Or.inl ⟨by rfl, ?_⟩) ?_ ?_
          rotate_left
          · intro w'
            go_simp
            with_reducible rfl
          rotate_left
          · simp only [Act.put, List.setIfInBounds_toArray, List.set_cons_zero, List.set_cons_succ, i64_w, i32_w]
            rfl
          refine pure_ (i := 26) (N := some 10) (v := ?_) (a' := ?_) #[true, true, true, true, true, true, true, true, true, true, true, true, true, true, true, true, true, true, true, true, true, true, true, true, true, true, true] rfl rfl (by kernel_rfl) (fun _ _ _ h => h) (Or.inl ⟨by rfl, ?_⟩) ?_ ?_
          rotate_left
          · intro w'
            go_simp
            with_reducible rfl
          rotate_left
          · simp only [Act.put, List.setIfInBounds_toArray, List.set_cons_zero, List.set_cons_succ, i64_w, i32_w]
            rfl
          refine done_ (by kernel_rfl) ?_
          have hS5 : WordsAt w5 g2 [a, b', c₂, d, e, f, g, h] 112 := WordsAt.keeps (w := wr.drew) hS hK5 g12
          have hB5 : Below w.heap.size w w5 := ⟨hK5.os.trans hB.os, hK5.tape.trans hB.tape, hK5.output.trans hB.output, Nat.le_trans hB.size hK5.size, fun j hj => (hK5.block j (Nat.lt_of_lt_of_le hj hB.size) (by omega)).trans (hB.block j hj)⟩
          have z0 := hS5.cell 0 (by simp)
          have z1 := hS5.cell 1 (by simp)
          have z2 := hS5.cell 2 (by simp)
          have z3 := hS5.cell 3 (by simp)
          have z4 := hS5.cell 4 (by simp)
          have z5 := hS5.cell 5 (by simp)
          have z6 := hS5.cell 6 (by simp)
          simp only [List.getD_cons_zero, List.getD_cons_succ] at z0 z1 z2 z3 z4 z5 z6
          have D1 : ∀ w : World, Calls Tryd.prog 79 #[.int .u32 (a.toNat : Int), .int .i64 (-22)] w fun e' w' => e' = .returned (.int .u32 ((rotr a 22).toNat : Int)) ∧ w = w' := fun w => rotl_any (n := 22) (by omega) (by omega)
          have D2 : ∀ w : World, Calls Tryd.prog 78 #[.int .u32 (a.toNat : Int), .int .i64 2, .int .i64 13, .int .u32 ((rotr a 22).toNat : Int)] w fun e' w' => e' = .returned (.int .u32 ((wXor (wXor (rotr a 2) (rotr a 13)) (rotr a 22)).toNat : Int)) ∧ w = w' := fun w => spread_any (a := 2) (b := 13) ⟨by omega, by omega⟩ ⟨by omega, by omega⟩
          have E1 := word_and a b'
          have E2 := word_or a b'
          have E3 := word_and c₂ (wOr a b')
          have E4 := word_or (wAnd a b') (wAnd c₂ (wOr a b'))
          rw [most_eq] at E4
          have E5 := word_addW (wXor (wXor (rotr a 2) (rotr a 13)) (rotr a 22)) (most a b' c₂)
          have hU : wAdd (wXor (wXor (rotr a 2) (rotr a 13)) (rotr a 22)) (most a b' c₂) = roundU a b' c₂ := rfl
          rw [hU] at E5
          have E6 := word_add (roundT kk WK e f g h) (roundU a b' c₂)
          have E7 := word_add d (roundT kk WK e f g h)
          clear y0 y1 y2 y3 y4 y5 y6 y7 C1 C2 C3 X1 X2 X3 A1 A2 A3 A4 hS hK5 hB hU i0 hR
          go_wp2
          refine start_ (n := 22) (S := fun w' => w'.cell? ⟨g2, 0, none⟩ = some (.int .u32 (a.toNat : Int)) ∧ w'.cell? ⟨g2, 1, none⟩ = some (.int .u32 (b'.toNat : Int)) ∧ w'.cell? ⟨g2, 2, none⟩ = some (.int .u32 (c₂.toNat : Int))) (ds := []) #[false, false, false, false, false, false, false, false, false, false, false, false, false, false, false, false, false, false, false, false, false, false] (by kernel_rfl) rfl rfl ⟨z0, z1, z2⟩ (fun hHeld => ?_)
          refine pure_ (i := 0) (N := some 67) (v := ?_) (a' := ?_) #[true, false, false, false, false, false, false, false, false, false, false, false, false, false, false, false, false, false, false, false, false, false] rfl rfl (by kernel_rfl) (fun _ _ _ h => h) (Or.inl ⟨by rfl, ?_⟩) ?_ ?_
          rotate_left
          · intro w'
            go_simp
            with_reducible rfl
          rotate_left
          · simp only [Act.put, List.setIfInBounds_toArray, List.set_cons_zero, List.set_cons_succ, i64_w, i32_w]
            rfl
          refine pure_ (i := 2) (N := some 69) (v := ?_) (a' := ?_) #[true, false, true, false, false, false, false, false, false, false, false, false, false, false, false, false, false, false, false, false, false, false] rfl rfl (by kernel_rfl) (fun _ _ _ h => h) (Or.inl ⟨by rfl, ?_⟩) ?_ ?_
          rotate_left
          · intro w'
            go_simp
            with_reducible rfl
          rotate_left
          · simp only [Act.put, List.setIfInBounds_toArray, List.set_cons_zero, List.set_cons_succ, i64_w, i32_w]
            rfl
          refine pure_ (i := 6) (N := some 73) (v := ?_) (a' := ?_) #[true, false, true, false, false, false, true, false, false, false, false, false, false, false, false, false, false, false, false, false, false, false] rfl rfl (by kernel_rfl) (fun _ _ _ h => h) (Or.inl ⟨by rfl, ?_⟩) ?_ ?_
          rotate_left
          · intro w'
            go_simp
            with_reducible rfl
          rotate_left
          · simp only [Act.put, List.setIfInBounds_toArray, List.set_cons_zero, List.set_cons_succ, i64_w, i32_w]
            rfl
          refine pure_ (i := 8) (N := some 75) (v := ?_) (a' := ?_) #[true, false, true, false, false, false, true, false, true, false, false, false, false, false, false, false, false, false, false, false, false, false] rfl rfl (by kernel_rfl) (fun _ _ _ h => h) (Or.inl ⟨by rfl, ?_⟩) ?_ ?_
          rotate_left
          · intro w'
            go_simp
            with_reducible rfl
          rotate_left
          · simp only [Act.put, List.setIfInBounds_toArray, List.set_cons_zero, List.set_cons_succ, i64_w, i32_w]
            rfl
          refine pure_ (i := 11) (N := some 78) (v := ?_) (a' := ?_) #[true, false, true, false, false, false, true, false, true, false, false, true, false, false, false, false, false, false, false, false, false, false] rfl rfl (by kernel_rfl) (fun _ _ _ h => h) (Or.inl ⟨by rfl, ?_⟩) ?_ ?_
          rotate_left
          · intro w'
            go_simp
            with_reducible rfl
          rotate_left
          · simp only [Act.put, List.setIfInBounds_toArray, List.set_cons_zero, List.set_cons_succ, i64_w, i32_w]
            rfl
          refine pure_ (i := 13) (N := some 80) (v := ?_) (a' := ?_) #[true, false, true, false, false, false, true, false, true, false, false, true, false, true, false, false, false, false, false, false, false, false] rfl rfl (by kernel_rfl) (fun _ _ _ h => h) (Or.inl ⟨by rfl, ?_⟩) ?_ ?_
          rotate_left
          · intro w'
            go_simp
            with_reducible rfl
          rotate_left
          · simp only [Act.put, List.setIfInBounds_toArray, List.set_cons_zero, List.set_cons_succ, i64_w, i32_w]
            rfl
          refine pure_ (i := 15) (N := some 82) (v := ?_) (a' := ?_) #[true, false, true, false, false, false, true, false, true, false, false, true, false, true, false, true, false, false, false, false, false, false] rfl rfl (by kernel_rfl) (fun _ _ _ h => h) (Or.inl ⟨by rfl, ?_⟩) ?_ ?_
          rotate_left
          · intro w'
            go_simp
            with_reducible rfl
          rotate_left
          · simp only [Act.put, List.setIfInBounds_toArray, List.set_cons_zero, List.set_cons_succ, i64_w, i32_w]
            rfl
          refine take_ (i := 1) (N := some 68) (v := ?_) (a' := ?_) #[true, true, true, false, false, false, true, false, true, false, false, true, false, true, false, true, false, false, false, false, false, false] rfl rfl (by kernel_rfl) (fun _ _ _ h => h) (Or.inl ⟨by rfl, ?_⟩) hHeld ?_ ?_
          rotate_left
          · rintro w' ⟨s0, s1, s2⟩
            go_simp
            with_reducible rfl
          rotate_left
          · simp only [Act.put, List.setIfInBounds_toArray, List.set_cons_zero, List.set_cons_succ, i64_w, i32_w]
            rfl
          refine take_ (i := 3) (N := some 70) (v := ?_) (a' := ?_) #[true, true, true, true, false, false, true, false, true, false, false, true, false, true, false, true, false, false, false, false, false, false] rfl rfl (by kernel_rfl) (fun _ _ _ h => h) (Or.inl ⟨by rfl, ?_⟩) hHeld ?_ ?_
          rotate_left
          · rintro w' ⟨s0, s1, s2⟩
            go_simp
            with_reducible rfl
          rotate_left
          · simp only [Act.put, List.setIfInBounds_toArray, List.set_cons_zero, List.set_cons_succ, i64_w, i32_w]
            rfl
          refine take_ (i := 7) (N := some 74) (v := ?_) (a' := ?_) #[true, true, true, true, false, false, true, true, true, false, false, true, false, true, false, true, false, false, false, false, false, false] rfl rfl (by kernel_rfl) (fun _ _ _ h => h) (Or.inl ⟨by rfl, ?_⟩) hHeld ?_ ?_
          rotate_left
          · rintro w' ⟨s0, s1, s2⟩
            go_simp
            with_reducible rfl
          rotate_left
          · simp only [Act.put, List.setIfInBounds_toArray, List.set_cons_zero, List.set_cons_succ, i64_w, i32_w]
            rfl
          refine take_ (i := 9) (N := some 76) (v := ?_) (a' := ?_) #[true, true, true, true, false, false, true, true, true, true, false, true, false, true, false, true, false, false, false, false, false, false] rfl rfl (by kernel_rfl) (fun _ _ _ h => h) (Or.inl ⟨by rfl, ?_⟩) hHeld ?_ ?_
          rotate_left
          · rintro w' ⟨s0, s1, s2⟩
            go_simp
            with_reducible rfl
          rotate_left
          · simp only [Act.put, List.setIfInBounds_toArray, List.set_cons_zero, List.set_cons_succ, i64_w, i32_w]
            rfl
          refine pure_ (i := 10) (N := some 77) (v := ?_) (a' := ?_) #[true, true, true, true, false, false, true, true, true, true, true, true, false, true, false, true, false, false, false, false, false, false] rfl rfl (by kernel_rfl) (fun _ _ _ h => h) (Or.inl ⟨by rfl, ?_⟩) ?_ ?_
          rotate_left
          · intro w'
            go_simp
            with_reducible rfl
          rotate_left
          · simp only [Act.put, List.setIfInBounds_toArray, List.set_cons_zero, List.set_cons_succ, i64_w, i32_w]
            rfl
          refine take_ (i := 12) (N := some 79) (v := ?_) (a' := ?_) #[true, true, true, true, false, false, true, true, true, true, true, true, true, true, false, true, false, false, false, false, false, false] rfl rfl (by kernel_rfl) (fun _ _ _ h => h) (Or.inl ⟨by rfl, ?_⟩) hHeld ?_ ?_
          rotate_left
          · rintro w' ⟨s0, s1, s2⟩
            go_simp
            with_reducible rfl
          rotate_left
          · simp only [Act.put, List.setIfInBounds_toArray, List.set_cons_zero, List.set_cons_succ, i64_w, i32_w]
            rfl
          refine take_ (i := 14) (N := some 81) (v := ?_) (a' := ?_) #[true, true, true, true, false, false, true, true, true, true, true, true, true, true, true, true, false, false, false, false, false, false] rfl rfl (by kernel_rfl) (fun _ _ _ h => h) (Or.inl ⟨by rfl, ?_⟩) hHeld ?_ ?_
          rotate_left
          · rintro w' ⟨s0, s1, s2⟩
            go_simp
            with_reducible rfl
          rotate_left
          · simp only [Act.put, List.setIfInBounds_toArray, List.set_cons_zero, List.set_cons_succ, i64_w, i32_w]
            rfl
          refine take_ (i := 16) (N := some 83) (v := ?_) (a' := ?_) #[true, true, true, true, false, false, true, true, true, true, true, true, true, true, true, true, true, false, false, false, false, false] rfl rfl (by kernel_rfl) (fun _ _ _ h => h) (Or.inl ⟨by rfl, ?_⟩) hHeld ?_ ?_
          rotate_left
          · rintro w' ⟨s0, s1, s2⟩
            go_simp
            with_reducible rfl
          rotate_left
          · simp only [Act.put, List.setIfInBounds_toArray, List.set_cons_zero, List.set_cons_succ, i64_w, i32_w]
            rfl
          refine pure_ (i := 17) (N := some 84) (v := ?_) (a' := ?_) #[true, true, true, true, false, false, true, true, true, true, true, true, true, true, true, true, true, true, false, false, false, false] rfl rfl (by kernel_rfl) (fun _ _ _ h => h) (Or.inl ⟨by rfl, ?_⟩) ?_ ?_
          rotate_left
          · intro w'
            go_simp
            with_reducible rfl
          rotate_left
          · simp only [Act.put, List.setIfInBounds_toArray, List.set_cons_zero, List.set_cons_succ, i64_w, i32_w]
            rfl
          refine pure_ (i := 18) (N := some 85) (v := ?_) (a' := ?_) #[true, true, true, true, false, false, true, true, true, true, true, true, true, true, true, true, true, true, true, false, false, false] rfl rfl (by kernel_rfl) (fun _ _ _ h => h) (Or.inl ⟨by rfl, ?_⟩) ?_ ?_
          rotate_left
          · intro w'
            go_simp
            with_reducible rfl
          rotate_left
          · simp only [Act.put, List.setIfInBounds_toArray, List.set_cons_zero, List.set_cons_succ, i64_w, i32_w]
            rfl
          refine pure_ (i := 19) (N := some 86) (v := ?_) (a' := ?_) #[true, true, true, true, false, false, true, true, true, true, true, true, true, true, true, true, true, true, true, true, false, false] rfl rfl (by kernel_rfl) (fun _ _ _ h => h) (Or.inl ⟨by rfl, ?_⟩) ?_ ?_
          rotate_left
          · intro w'
            go_simp
            with_reducible rfl
          rotate_left
          · simp only [Act.put, List.setIfInBounds_toArray, List.set_cons_zero, List.set_cons_succ, i64_w, i32_w]
            rfl
          refine one_ (i := 4) (N := some 71) #[true, true, true, true, true, false, true, true, true, true, true, true, true, true, true, true, true, true, true, true, false, false] rfl rfl (by kernel_rfl) (by decide) (fun K hK => ?_)
          refine goes_ Tryd.func79 (by kernel_rfl) rfl #[.int .u32 (a.toNat : Int), .int .i64 (-22)] (by rfl) rfl rfl (by simp only [List.map_toArray, List.map_cons, List.map_nil]; rfl) ?_
          with_reducible refine ((D1 _)).mono ?_
          rintro e' w6 ⟨rfl, rfl⟩
          refine ⟨_, rfl, ?_⟩
          refine hK.out _ _ ⟨z0, z1, z2⟩ (fun hHeld => ?_)
          clear hK K
          refine norm_ (a' := ?_) ?_ ?_
          rotate_left
          · show Act.put _ (some 71) _ = _
            simp only [Act.put, List.setIfInBounds_toArray, List.set_cons_zero, List.set_cons_succ, i64_w, i32_w]
            rfl
          refine one_ (i := 5) (N := some 72) #[true, true, true, true, true, true, true, true, true, true, true, true, true, true, true, true, true, true, true, true, false, false] rfl rfl (by kernel_rfl) (by decide) (fun K hK => ?_)
          refine goes_ Tryd.func78 (by kernel_rfl) rfl #[.int .u32 (a.toNat : Int), .int .i64 2, .int .i64 13, .int .u32 ((rotr a 22).toNat : Int)] (by rfl) rfl rfl (by simp only [List.map_toArray, List.map_cons, List.map_nil]; rfl) ?_
          with_reducible refine ((D2 _)).mono ?_
          rintro e' w6 ⟨rfl, rfl⟩
          refine ⟨_, rfl, ?_⟩
          refine hK.out _ _ ⟨z0, z1, z2⟩ (fun hHeld => ?_)
          clear hK K
          refine norm_ (a' := ?_) ?_ ?_
          rotate_left
          · show Act.put _ (some 72) _ = _
            simp only [Act.put, List.setIfInBounds_toArray, List.set_cons_zero, List.set_cons_succ, i64_w, i32_w]
            rfl
          refine pure_ (i := 20) (N := some 87) (v := ?_) (a' := ?_) #[true, true, true, true, true, true, true, true, true, true, true, true, true, true, true, true, true, true, true, true, true, false] rfl rfl (by kernel_rfl) (fun _ _ _ h => h) (Or.inl ⟨by rfl, ?_⟩) ?_ ?_
          rotate_left
          · intro w'
            go_simp
            with_reducible rfl
          rotate_left
          · simp only [Act.put, List.setIfInBounds_toArray, List.set_cons_zero, List.set_cons_succ, i64_w, i32_w]
            rfl
          refine pure_ (i := 21) (N := some 11) (v := ?_) (a' := ?_) #[true, true, true, true, true, true, true, true, true, true, true, true, true, true, true, true, true, true, true, true, true, true] rfl rfl (by kernel_rfl) (fun _ _ _ h => h) (Or.inl ⟨by rfl, ?_⟩) ?_ ?_
          rotate_left
          · intro w'
            go_simp
            with_reducible rfl
          rotate_left
          · simp only [Act.put, List.setIfInBounds_toArray, List.set_cons_zero, List.set_cons_succ, i64_w, i32_w]
            rfl
          refine done_ (by kernel_rfl) ?_
          clear D1 D2 E1 E2 E3 E4 E5
          go_wp2_with (refine wpList_store_row rfl 112 (.tmp 7) (.tmp 107) rfl g2 (u32s [wAdd (roundT kk WK e f g h) (roundU a b' c₂), a, b', c₂, wAdd d (roundT kk WK e f g h), e, f, g]) rfl rfl 112 (u32s [a, b', c₂, d, e, f, g, h]) hS5 (by kernel_rfl) rfl (u32s_one _) ?_)
          have hr7 : WordsAt (w5.drew.setRow g2 (u32s [wAdd (roundT kk WK e f g h) (roundU a b' c₂), a, b', c₂, wAdd d (roundT kk WK e f g h), e, f, g])) g1 (ringNext (W m16) k r) 125 := WordsAt.keeps (w := w5.drew) hR5 (Keeps.row1 _ _ _) (fun e => g12 e.symm)
          have hs7 : WordsAt (w5.drew.setRow g2 (u32s [wAdd (roundT kk WK e f g h) (roundU a b' c₂), a, b', c₂, wAdd d (roundT kk WK e f g h), e, f, g])) g2 (rounds m16 (k + 1) [s0, s1, s2, s3, s4, s5, s6, s7]) 112 := by
            rw [hnx.out]
            exact WordsAt.row (w := w5.drew) hS5
          have hk7 := Keeps.row1 w5.drew g2 (u32s [wAdd (roundT kk WK e f g h) (roundU a b' c₂), a, b', c₂, wAdd d (roundT kk WK e f g h), e, f, g])
          have hb7 : Below w.heap.size w (w5.drew.setRow g2 (u32s [wAdd (roundT kk WK e f g h) (roundU a b' c₂), a, b', c₂, wAdd d (roundT kk WK e f g h), e, f, g])) := ⟨hB5.os, hB5.tape, hB5.output, Nat.le_trans hB5.size hk7.size, fun j hj => (hk7.block j (Nat.lt_of_lt_of_le hj hB5.size) (by omega)).trans (hB5.block j hj)⟩
          exact ⟨⟨k + 1, by omega, by go_num, ⟨_, hr7, hRA.next⟩, hs7, hb7⟩, by simp [intOf]; omega⟩
        · have hk64 : k = 64 := by omega
          subst hk64
          have hH := (HH.out.below hB)
          have lF := rounds_length m16 L8 64
          obtain ⟨FF, hFF⟩ : ∃ f, f = rounds m16 64 [s0, s1, s2, s3, s4, s5, s6, s7] := ⟨_, rfl⟩
          rw [← hFF] at hS lF
          have HF := hid hFF
          obtain ⟨SS, hSS⟩ : ∃ s, s = [s0, s1, s2, s3, s4, s5, s6, s7] := ⟨_, rfl⟩
          rw [← hSS] at hH L8
          have HS := hid hSS
          have hb2 : ¬ g2 = b := by omega
          have hH0 : HashAt wr b (added SS FF 0) R m c n := by simpa [added] using hH
          have hK0 : Keeps (fun j => j = b) w wr := Keeps.of_below hB
          clear hFF hSS hR hRA HW HH hH hB hlt hk
          go_wp2
          go_loopw [109] (fun i wx => ∃ k : Nat, k ≤ 8 ∧ i = .int .i64 k ∧ HashAt wx b (added SS FF k) R m c n ∧ WordsAt wx g2 FF 112 ∧ Keeps (fun j => j = b) w wx) (fun i _ => 8 - (intOf i).toNat)
          case atStart => exact ⟨0, Nat.zero_le _, rfl, hH0, hS, hK0⟩
          case round =>
            clear hH0 hS hK0
            obtain ⟨k, hk, rfl, hH, hS, hK⟩ := hrel
            by_cases hlt : k < 8
            · have c1 := hH.cell k hlt
              rw [added_get L8 lF hlt] at c1
              have c2 := hS.cell k (by omega)
              have f1 := hH.free k
              have hN := hH.set k hlt (wAdd (SS.getD k 0) (FF.getD k 0))
              rw [added_next L8 lF hlt] at hN
              obtain ⟨xx, hxx⟩ : ∃ x, x = SS.getD k 0 := ⟨_, rfl⟩
              obtain ⟨yy, hyy⟩ : ∃ x, x = FF.getD k 0 := ⟨_, rfl⟩
              rw [← hxx] at c1 hN
              rw [← hyy] at c2 hN
              have A1 := word_addW xx yy
              have q8 : ((k : Int) < 8) = True := by simp; omega
              have HN := hid hN
              have HK := hid (hK.then (Keeps.set1 wr b k (.int .u32 ((wAdd xx yy).toNat : Int))) (fun _ _ e => e))
              have HS2 := hid (hS.keeps (Keeps.set1 wr b k (.int .u32 ((wAdd xx yy).toNat : Int))) hb2)
              clear hxx hyy hH hS hN hK
              go_wp2
              refine start_ (n := 14) (S := fun w' => w'.cell? ⟨b, k, none⟩ = some (.int .u32 (xx.toNat : Int)) ∧ w'.cell? ⟨g2, k, none⟩ = some (.int .u32 (yy.toNat : Int)) ∧ w'.frozen? ⟨b, k, none⟩ = false) (ds := [13]) #[false, false, false, false, false, false, false, false, false, false, false, false, false, false] (by kernel_rfl) rfl rfl ⟨c1, c2, f1⟩ (fun hHeld => ?_)
              refine pure_ (i := 0) (N := some 112) (v := ?_) (a' := ?_) #[true, false, false, false, false, false, false, false, false, false, false, false, false, false] rfl rfl (by kernel_rfl) (fun _ _ _ h => h) (Or.inl ⟨by rfl, ?_⟩) ?_ ?_
              rotate_left
              · intro w'
                go_simp
                with_reducible rfl
              rotate_left
              · simp only [Act.put, List.setIfInBounds_toArray, List.set_cons_zero, List.set_cons_succ, i64_w, i32_w]
                rfl
              refine pure_ (i := 1) (N := some 113) (v := ?_) (a' := ?_) #[true, true, false, false, false, false, false, false, false, false, false, false, false, false] rfl rfl (by kernel_rfl) (fun _ _ _ h => h) (Or.inl ⟨by rfl, ?_⟩) ?_ ?_
              rotate_left
              · intro w'
                go_simp
                with_reducible rfl
              rotate_left
              · simp only [Act.put, List.setIfInBounds_toArray, List.set_cons_zero, List.set_cons_succ, i64_w, i32_w]
                rfl
              refine pure_ (i := 2) (N := some 114) (v := ?_) (a' := ?_) #[true, true, true, false, false, false, false, false, false, false, false, false, false, false] rfl rfl (by kernel_rfl) (fun _ _ _ h => h) (Or.inl ⟨by rfl, ?_⟩) ?_ ?_
              rotate_left
              · intro w'
                go_simp
                with_reducible rfl
              rotate_left
              · simp only [Act.put, List.setIfInBounds_toArray, List.set_cons_zero, List.set_cons_succ, i64_w, i32_w]
                rfl
              refine pure_ (i := 3) (N := some 115) (v := ?_) (a' := ?_) #[true, true, true, true, false, false, false, false, false, false, false, false, false, false] rfl rfl (by kernel_rfl) (fun _ _ _ h => h) (Or.inl ⟨by rfl, ?_⟩) ?_ ?_
              rotate_left
              · intro w'
                go_simp
                with_reducible rfl
              rotate_left
              · simp only [Act.put, List.setIfInBounds_toArray, List.set_cons_zero, List.set_cons_succ, i64_w, i32_w]
                rfl
              refine pure_ (i := 4) (N := some 116) (v := ?_) (a' := ?_) #[true, true, true, true, true, false, false, false, false, false, false, false, false, false] rfl rfl (by kernel_rfl) (fun _ _ _ h => h) (Or.inl ⟨by rfl, ?_⟩) ?_ ?_
              rotate_left
              · intro w'
                go_simp
                with_reducible rfl
              rotate_left
              · simp only [Act.put, List.setIfInBounds_toArray, List.set_cons_zero, List.set_cons_succ, i64_w, i32_w]
                rfl
              refine pure_ (i := 6) (N := some 118) (v := ?_) (a' := ?_) #[true, true, true, true, true, false, true, false, false, false, false, false, false, false] rfl rfl (by kernel_rfl) (fun _ _ _ h => h) (Or.inl ⟨by rfl, ?_⟩) ?_ ?_
              rotate_left
              · intro w'
                go_simp
                with_reducible rfl
              rotate_left
              · simp only [Act.put, List.setIfInBounds_toArray, List.set_cons_zero, List.set_cons_succ, i64_w, i32_w]
                rfl
              refine pure_ (i := 7) (N := some 119) (v := ?_) (a' := ?_) #[true, true, true, true, true, false, true, true, false, false, false, false, false, false] rfl rfl (by kernel_rfl) (fun _ _ _ h => h) (Or.inl ⟨by rfl, ?_⟩) ?_ ?_
              rotate_left
              · intro w'
                go_simp
                with_reducible rfl
              rotate_left
              · simp only [Act.put, List.setIfInBounds_toArray, List.set_cons_zero, List.set_cons_succ, i64_w, i32_w]
                rfl
              refine pure_ (i := 10) (N := some 122) (v := ?_) (a' := ?_) #[true, true, true, true, true, false, true, true, false, false, true, false, false, false] rfl rfl (by kernel_rfl) (fun _ _ _ h => h) (Or.inl ⟨by rfl, ?_⟩) ?_ ?_
              rotate_left
              · intro w'
                go_simp
                with_reducible rfl
              rotate_left
              · simp only [Act.put, List.setIfInBounds_toArray, List.set_cons_zero, List.set_cons_succ, i64_w, i32_w]
                rfl
              refine pure_ (i := 11) (N := some 123) (v := ?_) (a' := ?_) #[true, true, true, true, true, false, true, true, false, false, true, true, false, false] rfl rfl (by kernel_rfl) (fun _ _ _ h => h) (Or.inl ⟨by rfl, ?_⟩) ?_ ?_
              rotate_left
              · intro w'
                go_simp
                with_reducible rfl
              rotate_left
              · simp only [Act.put, List.setIfInBounds_toArray, List.set_cons_zero, List.set_cons_succ, i64_w, i32_w]
                rfl
              refine take_ (i := 5) (N := some 117) (v := ?_) (a' := ?_) #[true, true, true, true, true, true, true, true, false, false, true, true, false, false] rfl rfl (by kernel_rfl) (fun _ _ _ h => h) (Or.inl ⟨by rfl, ?_⟩) hHeld ?_ ?_
              rotate_left
              · rintro w' ⟨s0, s1, s2⟩
                go_simp
                with_reducible rfl
              rotate_left
              · simp only [Act.put, List.setIfInBounds_toArray, List.set_cons_zero, List.set_cons_succ, i64_w, i32_w]
                rfl
              refine take_ (i := 8) (N := some 120) (v := ?_) (a' := ?_) #[true, true, true, true, true, true, true, true, true, false, true, true, false, false] rfl rfl (by kernel_rfl) (fun _ _ _ h => h) (Or.inl ⟨by rfl, ?_⟩) hHeld ?_ ?_
              rotate_left
              · rintro w' ⟨s0, s1, s2⟩
                go_simp
                with_reducible rfl
              rotate_left
              · simp only [Act.put, List.setIfInBounds_toArray, List.set_cons_zero, List.set_cons_succ, i64_w, i32_w]
                rfl
              refine pure_ (i := 9) (N := some 121) (v := ?_) (a' := ?_) #[true, true, true, true, true, true, true, true, true, true, true, true, false, false] rfl rfl (by kernel_rfl) (fun _ _ _ h => h) (Or.inl ⟨by rfl, ?_⟩) ?_ ?_
              rotate_left
              · intro w'
                go_simp
                with_reducible rfl
              rotate_left
              · simp only [Act.put, List.setIfInBounds_toArray, List.set_cons_zero, List.set_cons_succ, i64_w, i32_w]
                rfl
              refine pure_ (i := 12) (N := some 124) (v := ?_) (a' := ?_) #[true, true, true, true, true, true, true, true, true, true, true, true, true, false] rfl rfl (by kernel_rfl) (fun _ _ _ h => h) (Or.inl ⟨by rfl, ?_⟩) ?_ ?_
              rotate_left
              · intro w'
                go_simp
                with_reducible rfl
              rotate_left
              · simp only [Act.put, List.setIfInBounds_toArray, List.set_cons_zero, List.set_cons_succ, i64_w, i32_w]
                rfl
              refine last_ (i := 13) (N := none) #[true, true, true, true, true, true, true, true, true, true, true, true, true, true] rfl rfl (by kernel_rfl) (by decide) (fun K hK => ?_)
              refine skip_ (w1 := ?_) (by rfl) rfl ?_ ?_
              rotate_left
              · go_simp
                rfl
              refine hK.out _ _ ?_
              clear hK K
              refine done_ (by kernel_rfl) ?_
              go_wp2
              exact ⟨⟨k + 1, by omega, by go_num, HN.out, HS2.out, HK.out.drew⟩, by simp [intOf]; omega⟩
            · have hk8 : k = 8 := by omega
              subst hk8
              rw [added_all L8 lF] at hH
              have hc : comp m16 [s0, s1, s2, s3, s4, s5, s6, s7] = List.zipWith wAdd SS FF := by rw [HF.out, HS.out]; rfl
              go_wp2
              go_end0
              exact ⟨rfl, by rw [hc]; exact hH, hK⟩
end Go.Proofs.YtmbgfjcmdolggaaDoor
