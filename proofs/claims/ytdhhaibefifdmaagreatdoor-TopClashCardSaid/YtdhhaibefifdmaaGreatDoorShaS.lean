/- SHA-256 as plain Lean: the words of a block, the rounds, blocks one behind the other, what stands behind the bytes. -/
import Derived.Test.YtdhhaibefifdmaaGreatDoorShaA
set_option linter.unusedVariables false
set_option linter.unusedSimpArgs false
namespace Go.Proofs.YtdhhaibefifdmaaGreatDoor

def wNot (x : UInt32) : UInt32 := 4294967295 - x
theorem word_not (x : UInt32) : 4294967295 - (x.toNat : Int) = ((wNot x).toNat : Int) := by
  have h := x.toNat_lt
  rw [wNot, UInt32.toNat_sub_of_le _ _ (by rw [UInt32.le_iff_toNat_le]; show x.toNat ≤ 4294967295; omega)]
  show _ = (((4294967295 : Nat) - x.toNat : Nat) : Int)
  omega

def choice (e f g : UInt32) : UInt32 := wOr (wAnd e f) (wAnd (wNot e) g)
def most (a b c : UInt32) : UInt32 := wXor (wXor (wAnd a b) (wAnd a c)) (wAnd b c)
theorem choice_eq (e f g : UInt32) : wXor g (wAnd e (wXor f g)) = choice e f g := by
  unfold choice wXor wAnd wOr wNot
  rw [← UInt32.toBitVec_inj]
  simp only [UInt32.toBitVec_xor, UInt32.toBitVec_and, UInt32.toBitVec_or, UInt32.toBitVec_sub]
  have : (4294967295 : UInt32).toBitVec = BitVec.allOnes 32 := rfl
  rw [this, BitVec.allOnes_sub_eq_not]
  ext i
  simp
  cases e.toBitVec[i] <;> cases f.toBitVec[i] <;> cases g.toBitVec[i] <;> rfl
theorem most_eq (a b c : UInt32) : wOr (wAnd a b) (wAnd c (wOr a b)) = most a b c := by
  unfold most wXor wAnd wOr
  rw [← UInt32.toBitVec_inj]
  simp only [UInt32.toBitVec_xor, UInt32.toBitVec_and, UInt32.toBitVec_or]
  ext i
  simp
  cases a.toBitVec[i] <;> cases b.toBitVec[i] <;> cases c.toBitVec[i] <;> rfl
theorem wAdd_assoc (x y z : UInt32) : wAdd (wAdd x y) z = wAdd x (wAdd y z) := UInt32.add_assoc x y z
theorem wAdd_comm (x y : UInt32) : wAdd x y = wAdd y x := UInt32.add_comm x y

/-! ### The words of a block -/
def sig0 (a : UInt32) : UInt32 := wXor (wXor (rotr a 7) (rotr a 18)) (wShr a 3)
def sig1 (b : UInt32) : UInt32 := wXor (wXor (rotr b 17) (rotr b 19)) (wShr b 10)
def nextW (l : List UInt32) : UInt32 :=
  wAdd (wAdd (wAdd (l.getD (l.length - 16) 0) (l.getD (l.length - 7) 0)) (sig0 (l.getD (l.length - 15) 0))) (sig1 (l.getD (l.length - 2) 0))
def sched (m : List UInt32) : Nat → List UInt32
  | 0 => m
  | n + 1 => sched m n ++ [nextW (sched m n)]
theorem sched_length (m : List UInt32) (hm : m.length = 16) : ∀ n, (sched m n).length = 16 + n
  | 0 => hm
  | n + 1 => by simp [sched, sched_length m hm n]; omega
theorem sched_get (m : List UInt32) (hm : m.length = 16) (n : Nat) : ∀ k, n ≤ k → ∀ i, i < 16 + n → (sched m k).getD i 0 = (sched m n).getD i 0
  | 0, h, i, _ => by have : n = 0 := by omega
                     subst this; rfl
  | k + 1, h, i, hi => by
    by_cases e : n = k + 1
    · subst e; rfl
    · have l := sched_length m hm k
      rw [← sched_get m hm n k (by omega) i hi]
      simp only [sched, List.getD_eq_getElem?_getD]
      rw [List.getElem?_append_left (by omega)]
/-- Word i. -/
def W (m : List UInt32) (i : Nat) : UInt32 := (sched m 48).getD i 0
theorem W_low {m : List UInt32} (hm : m.length = 16) {i : Nat} (hi : i < 16) : W m i = m.getD i 0 := sched_get m hm 0 48 (by omega) i (by omega)
theorem W_next {m : List UInt32} (hm : m.length = 16) {i : Nat} (h : 16 ≤ i) (hi : i < 64) : W m i = wAdd (wAdd (wAdd (W m (i - 16)) (W m (i - 7))) (sig0 (W m (i - 15)))) (sig1 (W m (i - 2))) := by
  obtain ⟨n, rfl⟩ : ∃ n, i = 16 + n := ⟨i - 16, by omega⟩
  have l := sched_length m hm n
  have e : ∀ j, j < 16 + n → W m j = (sched m n).getD j 0 := fun j hj => sched_get m hm n 48 (by omega) j hj
  rw [e (16 + n - 16) (by omega), e (16 + n - 7) (by omega), e (16 + n - 15) (by omega), e (16 + n - 2) (by omega)]
  unfold W
  rw [sched_get m hm (n + 1) 48 (by omega) (16 + n) (by omega)]
  simp only [sched, List.getD_eq_getElem?_getD]
  rw [List.getElem?_append_right (by omega), l]
  simp [nextW, l]

/-! ### The rounds -/
def roundK : List UInt32 := [1116352408, 1899447441, 3049323471, 3921009573, 961987163, 1508970993, 2453635748, 2870763221, 3624381080, 310598401, 607225278, 1426881987, 1925078388, 2162078206, 2614888103, 3248222580, 3835390401, 4022224774, 264347078, 604807628, 770255983, 1249150122, 1555081692, 1996064986, 2554220882, 2821834349, 2952996808, 3210313671, 3336571891, 3584528711, 113926993, 338241895, 666307205, 773529912, 1294757372, 1396182291, 1695183700, 1986661051, 2177026350, 2456956037, 2730485921, 2820302411, 3259730800, 3345764771, 3516065817, 3600352804, 4094571909, 275423344, 430227734, 506948616, 659060556, 883997877, 958139571, 1322822218, 1537002063, 1747873779, 1955562222, 2024104815, 2227730452, 2361852424, 2428436474, 2756734187, 3204031479, 3329325298]
def roundT (k w : UInt32) (e f g h : UInt32) : UInt32 :=
  wAdd (wAdd (wAdd (wAdd h (wXor (wXor (rotr e 6) (rotr e 11)) (rotr e 25))) (choice e f g)) k) w
def roundU (a b c : UInt32) : UInt32 := wAdd (wXor (wXor (rotr a 2) (rotr a 13)) (rotr a 22)) (most a b c)
def step (k w : UInt32) : List UInt32 → List UInt32
  | [a, b, c, d, e, f, g, h] => [wAdd (roundT k w e f g h) (roundU a b c), a, b, c, wAdd d (roundT k w e f g h), e, f, g]
  | s => s
def rounds (m : List UInt32) : Nat → List UInt32 → List UInt32
  | 0, s => s
  | n + 1, s => step (roundK.getD n 0) (W m n) (rounds m n s)
theorem eight {s : List UInt32} (h : s.length = 8) : ∃ a b c d e f g i, s = [a, b, c, d, e, f, g, i] := by
  match s, h with
  | [a, b, c, d, e, f, g, i], _ => exact ⟨a, b, c, d, e, f, g, i, rfl⟩
theorem step_length (k w : UInt32) {s : List UInt32} (h : s.length = 8) : (step k w s).length = 8 := by
  obtain ⟨a, b, c, d, e, f, g, i, rfl⟩ := eight h
  rfl
theorem rounds_length (m : List UInt32) {s : List UInt32} (h : s.length = 8) : ∀ n, (rounds m n s).length = 8
  | 0 => h
  | n + 1 => step_length _ _ (rounds_length m h n)
def comp (m s : List UInt32) : List UInt32 := List.zipWith wAdd s (rounds m 64 s)
theorem comp_length (m : List UInt32) {s : List UInt32} (h : s.length = 8) : (comp m s).length = 8 := by
  unfold comp; rw [List.length_zipWith, h, rounds_length m h]; rfl

/-! ### Bytes -/
/-- Four bytes as a word, the highest first. -/
def be (l : List UInt8) : UInt32 := l.foldl (fun x b => wOr (wShl x 8) b.toUInt32) 0
def chunk (p : List UInt8) (j : Nat) : List UInt8 := (p.drop (4 * j)).take 4
def wordsOf (p : List UInt8) : List UInt32 := (List.range 16).map fun j => be (chunk p j)
theorem wordsOf_length (p : List UInt8) : (wordsOf p).length = 16 := by simp [wordsOf]
/-- Block by block: what comes of them, and what is left over. -/
def run (s : List UInt32) (p : List UInt8) : List UInt32 × List UInt8 :=
  if h : 64 ≤ p.length then run (comp (wordsOf (p.take 64)) s) (p.drop 64) else (s, p)
termination_by p.length
decreasing_by simp; omega
theorem run_short {s : List UInt32} {p : List UInt8} (h : p.length < 64) : run s p = (s, p) := by
  rw [run, dif_neg (by omega)]
theorem run_block {s : List UInt32} {p : List UInt8} (h : 64 ≤ p.length) : run s p = run (comp (wordsOf (p.take 64)) s) (p.drop 64) := by
  rw [run, dif_pos h]
theorem run_rest (s : List UInt32) (p : List UInt8) : (run s p).2 = p.drop (p.length / 64 * 64) := by
  by_cases h : 64 ≤ p.length
  · rw [run_block h, run_rest _ (p.drop 64), List.drop_drop]
    congr 1
    simp only [List.length_drop]
    omega
  · rw [run_short (by omega)]
    have : p.length / 64 = 0 := by omega
    simp [this]
termination_by p.length
decreasing_by simp; omega
theorem run_rest_length (s : List UInt32) (p : List UInt8) : (run s p).2.length = p.length % 64 := by
  rw [run_rest]; simp only [List.length_drop]; omega
theorem run_append (s : List UInt32) (p q : List UInt8) : run s (p ++ q) = run (run s p).1 ((run s p).2 ++ q) := by
  by_cases h : 64 ≤ p.length
  · rw [run_block (p := p) h, ← run_append _ (p.drop 64) q, run_block (p := p ++ q) (by simp; omega)]
    rw [List.take_append_of_le_length h, List.drop_append_of_le_length h]
  · rw [run_short (p := p) (by omega)]
termination_by p.length
decreasing_by simp; omega
theorem run_length {s : List UInt32} (h : s.length = 8) (p : List UInt8) : (run s p).1.length = 8 := by
  by_cases h64 : 64 ≤ p.length
  · rw [run_block h64]; exact run_length (comp_length _ h) (p.drop 64)
  · rw [run_short (by omega)]; exact h
termination_by p.length
decreasing_by simp; omega

def first : List UInt32 := [1779033703, 3144134277, 1013904242, 2773480762, 1359893119, 2600822924, 528734635, 1541459225]
/-- A number's eight bytes, the highest first. -/
def eightBytes (n : Nat) : List UInt8 := (List.range 8).map fun j => UInt8.ofNat (n / 2 ^ (8 * (7 - j)))
/-- So many noughts make it 56 of 64. -/
def noughts (n : Nat) : Nat := (119 - n % 64) % 64
def padded (p : List UInt8) : List UInt8 := p ++ [128] ++ List.replicate (noughts p.length) 0 ++ eightBytes (8 * p.length)
def fourBytes (x : UInt32) : List UInt8 := (List.range 4).map fun j => UInt8.ofNat (x.toNat / 2 ^ (8 * (3 - j)))
def bytesOf (s : List UInt32) : List UInt8 := s.flatMap fourBytes
def sum256 (p : List UInt8) : List UInt8 := bytesOf (run first (padded p)).1
theorem noughts_spec (n : Nat) : (n + 1 + noughts n) % 64 = 56 := by unfold noughts; omega
theorem noughts_min (n k : Nat) (h : (n + 1 + k) % 64 = 56) : noughts n ≤ k := by unfold noughts; omega
theorem padded_length (p : List UInt8) : (padded p).length = p.length + 1 + noughts p.length + 8 := by simp [padded, eightBytes]; omega
theorem padded_whole (p : List UInt8) : (padded p).length % 64 = 0 := by rw [padded_length]; have := noughts_spec p.length; omega
theorem fourBytes_length (x : UInt32) : (fourBytes x).length = 4 := by simp [fourBytes]
end Go.Proofs.YtdhhaibefifdmaaGreatDoor
