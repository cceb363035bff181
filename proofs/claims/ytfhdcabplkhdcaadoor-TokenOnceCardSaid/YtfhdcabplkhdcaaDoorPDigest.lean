/- The plain side of the digest: both programs' sums, words and keys are the same plain functions. -/
import Derived.Test.YtfhdcabplkhdcaaDoorF
import Derived.KernelRfl
set_option linter.unusedSimpArgs false
set_option linter.unusedVariables false
namespace Go.Proofs.Ty
open Go Go.RW
/-! ### rounds -/
def rot (x : BitVec 64) (n : Nat) : BitVec 64 := (x <<< n) ||| (x >>> (64 - n))
def sround (s : TDigeststate) : TDigeststate :=
  let a := s.v0 + s.v1
  let b := rot s.v1 13 ^^^ a
  let c := s.v2 + s.v3
  let d := rot s.v3 16 ^^^ c
  let a2 := rot a 32 + d
  let c2 := c + b
  ⟨a2, rot b 17 ^^^ c2, rot c2 32, rot d 21 ^^^ a2⟩
def rounds : Nat → TDigeststate → TDigeststate
  | 0, s => s
  | n + 1, s => rounds n (sround s)
theorem rotl13 (x : BitVec 64) : bitsRotateLeft64 x 13 = some (rot x 13) := rfl
theorem rotl16 (x : BitVec 64) : bitsRotateLeft64 x 16 = some (rot x 16) := rfl
theorem rotl17 (x : BitVec 64) : bitsRotateLeft64 x 17 = some (rot x 17) := rfl
theorem rotl21 (x : BitVec 64) : bitsRotateLeft64 x 21 = some (rot x 21) := rfl
theorem rotl32 (x : BitVec 64) : bitsRotateLeft64 x 32 = some (rot x 32) := rfl
theorem ref_rotl13 (x : BitVec 64) : passkeyref1rotl x 13#64 = some (rot x 13) := rfl
theorem ref_rotl16 (x : BitVec 64) : passkeyref1rotl x 16#64 = some (rot x 16) := rfl
theorem ref_rotl17 (x : BitVec 64) : passkeyref1rotl x 17#64 = some (rot x 17) := rfl
theorem ref_rotl21 (x : BitVec 64) : passkeyref1rotl x 21#64 = some (rot x 21) := rfl
theorem ref_rotl32 (x : BitVec 64) : passkeyref1rotl x 32#64 = some (rot x 32) := rfl
theorem round_loop (n : Int) (hn : n ≤ 9223372036854775807) : ∀ (m k i : Nat) (s : TDigeststate), (i : Int) + m = n → m < k → digeststateroundL1 n k s.v0 s.v1 s.v2 s.v3 i = some (rounds m s)
  | 0, k + 1, i, s, h, _ => by
    rw [digeststateroundL1, if_neg (by simp; omega)]; rfl
  | m + 1, k + 1, i, s, h, hk => by
    rw [digeststateroundL1, if_pos (by simp; omega)]
    simp only [rotl13, rotl16, rotl17, rotl21, rotl32, Option.bind_some]
    rw [w64_of (by omega) (by omega)]
    exact round_loop n hn m k (i + 1) (sround s) (by omega) (by omega)
theorem round_eq (s : TDigeststate) (n : Nat) (hn : n ≤ 1000) : digeststateround s n = some (rounds n s) := by
  rw [digeststateround]
  exact round_loop n (by omega) n FUEL 0 s (by omega) (by simp only [FUEL]; omega)
def toA (s : TDigeststate) : TA4BitVec64 := ⟨s.v0, s.v1, s.v2, s.v3⟩
theorem ref_round_eq (s : TDigeststate) : passkeyref1round (toA s) = some (toA (sround s)) := by
  simp only [passkeyref1round, toA, ref_rotl13, ref_rotl16, ref_rotl17, ref_rotl21, ref_rotl32, Option.bind_some]; rfl
def sword (s : TDigeststate) (m : BitVec 64) : TDigeststate :=
  let t := rounds 2 ⟨s.v0, s.v1, s.v2, s.v3 ^^^ m⟩
  ⟨t.v0 ^^^ m, t.v1, t.v2, t.v3⟩
theorem word_eq (s : TDigeststate) (m : BitVec 64) : digeststateword s m = some (sword s m) := by
  rw [digeststateword, show (2 : Int) = ((2 : Nat) : Int) from rfl, round_eq _ 2 (by omega)]; rfl
/-! ### words of bytes -/
/-- The word of some bytes, the least significant first. -/
def le : List (BitVec 8) → BitVec 64
  | [] => 0#64
  | x :: xs => (le xs <<< 8) ||| x.setWidth 64
theorem little_loop (b : List (BitVec 8)) (hb : b.length ≤ 140737488351232) : ∀ (xs : List (BitVec 8)) (k i : Nat) (w : BitVec 64), b.drop i = xs → xs.length < k → digestlittleL2 b k w i = some (w ||| (le xs <<< (8 * i)))
  | [], k + 1, i, w, h, _ => by
    have : ¬ i < b.length := by
      intro hi; simp at h; omega
    rw [digestlittleL2, if_neg (by simpa using this), digestlittleJ1, le]
    simp
  | x :: xs, k + 1, i, w, h, hk => by
    have hi : i < b.length := by
      rcases Nat.lt_or_ge i b.length with h' | h'
      · exact h'
      · rw [List.drop_eq_nil_of_le h'] at h; simp at h
    rw [List.drop_eq_getElem_cons hi] at h
    simp only [List.cons.injEq] at h
    have e8 : w64 (8 * (i : Int)) = ((8 * i : Nat) : Int) := by rw [w64_of (by omega) (by omega)]; omega
    rw [digestlittleL2, if_pos (by simpa using hi), asq_pos ⟨by omega, by omega⟩]
    rw [e8, asq_pos (by omega), lett_def, w64_of (by omega) (by omega)]
    have := little_loop b hb xs k (i + 1) (w ||| ((x.setWidth 64) <<< (8 * i))) h.2 (by simp at hk; omega)
    simp only [Int.toNat_natCast]
    have hx : b.getD i 0#8 = x := by rw [List.getD_eq_getElem?_getD, List.getElem?_eq_getElem hi, h.1]; rfl
    rw [hx]
    have hc : ((i + 1 : Nat) : Int) = (i : Int) + 1 := by omega
    rw [hc] at this
    rw [this, le, BitVec.shiftLeft_or_distrib, ← BitVec.shiftLeft_add, show 8 + 8 * i = 8 * (i + 1) by omega, BitVec.or_assoc, BitVec.or_comm (BitVec.setWidth 64 x <<< (8 * i))]
theorem little_eq (b : List (BitVec 8)) (hb : b.length ≤ 140737488351232) : digestlittle b = some (le b) := by
  rw [digestlittle]
  have := little_loop b hb b FUEL 0 0#64 (by simp) (by simp only [FUEL]; omega)
  simpa using this
/-- The state behind whole words, and what is left of the bytes. -/
def sbytes : Nat → List (BitVec 8) → TDigeststate → TDigeststate × List (BitVec 8)
  | 0, b, s => (s, b)
  | n + 1, b, s => if 8 ≤ b.length then sbytes n (b.drop 8) (sword s (le (b.take 8))) else (s, b)
def sinit (k0 k1 : BitVec 64) : TDigeststate := ⟨k0 ^^^ 8317987319222330741#64, k1 ^^^ 7237128888997146477#64, k0 ^^^ 7816392313619706465#64, k1 ^^^ 8387220255154660723#64⟩
def sfin (s : TDigeststate) : BitVec 64 :=
  let t := rounds 4 ⟨s.v0, s.v1, s.v2 ^^^ 255#64, s.v3⟩
  ((t.v0 ^^^ t.v1) ^^^ t.v2) ^^^ t.v3
def sip (k0 k1 : BitVec 64) (b : List (BitVec 8)) : BitVec 64 :=
  let p := sbytes b.length b (sinit k0 k1)
  sfin (sword p.1 ((BitVec.ofInt 64 b.length <<< 56) ||| le p.2))
theorem sum_loop (b : List (BitVec 8)) (hb : b.length ≤ 140737488351232) : ∀ (n k : Nat) (c : List (BitVec 8)) (s : TDigeststate), c.length ≤ n → c.length ≤ b.length → n < k →
    digestSumL2 b k c s.v0 s.v1 s.v2 s.v3 = digestSumJ1 b (sbytes n c s).2 (sbytes n c s).1.v0 (sbytes n c s).1.v1 (sbytes n c s).1.v2 (sbytes n c s).1.v3
  | 0, k + 1, c, s, h, _, _ => by
    rw [digestSumL2, if_neg (by simp; omega)]; rfl
  | n + 1, k + 1, c, s, h, hc, hk => by
    by_cases h8 : 8 ≤ c.length
    · rw [digestSumL2, if_pos (by simp; omega), asq_pos (by omega)]
      have e : (8 : Int).toNat = 8 := rfl
      simp only [e, dropTake_zero, dropTake_end]
      rw [little_eq _ (by simp; omega), Option.bind_some, word_eq, Option.bind_some, asq_pos (by omega)]
      have := sum_loop b hb n k (c.drop 8) (sword s (le (c.take 8))) (by simp; omega) (by simp; omega) (by omega)
      rw [this, sbytes, if_pos h8]
    · rw [digestSumL2, if_neg (by simp; omega), sbytes, if_neg h8]
theorem sbytes_length : ∀ (n : Nat) (c : List (BitVec 8)) (s : TDigeststate), (sbytes n c s).2.length ≤ c.length
  | 0, c, s => Nat.le_refl _
  | n + 1, c, s => by
    rw [sbytes]
    split
    · have := sbytes_length n (c.drop 8) (sword s (le (c.take 8)))
      simp at this; omega
    · exact Nat.le_refl _
theorem sum_eq (k0 k1 : BitVec 64) (b : List (BitVec 8)) (hb : b.length ≤ 140737488351232) : digestSum k0 k1 b = some (sip k0 k1 b) := by
  rw [digestSum]
  have := sum_loop b hb b.length FUEL b (sinit k0 k1) (Nat.le_refl _) (Nat.le_refl _) (by simp only [FUEL]; omega)
  simp only [sinit] at this
  rw [this, digestSumJ1]
  have hl := sbytes_length b.length b (sinit k0 k1)
  simp only [sinit] at hl
  rw [little_eq _ (by omega), Option.bind_some, word_eq, Option.bind_some, show (4 : Int) = ((4 : Nat) : Int) from rfl, round_eq _ 4 (by omega)]
  rfl
/-! ### the reference -/
theorem le_append (xs ys : List (BitVec 8)) : le (xs ++ ys) = le xs ||| (le ys <<< (8 * xs.length)) := by
  induction xs with
  | nil => simp [le]
  | cons x xs ih =>
    simp only [List.cons_append, le, ih, List.length_cons]
    rw [BitVec.shiftLeft_or_distrib, ← BitVec.shiftLeft_add, show 8 * xs.length + 8 = 8 * (xs.length + 1) by omega, BitVec.or_assoc, BitVec.or_assoc, BitVec.or_comm (le ys <<< _)]
theorem le_zeros (n : Nat) : le (List.replicate n 0#8) = 0#64 := by
  induction n with
  | zero => rfl
  | succ n ih => simp [List.replicate_succ, le, ih]
/-- The byte number j of the word at i. -/
def byteAt (b : List (BitVec 8)) (i j : Nat) : BitVec 8 := if i + j < b.length then b.getD (i + j) 0#8 else if j = 7 then BitVec.ofInt 8 b.length else 0#8
def bytesFrom (b : List (BitVec 8)) (i j : Nat) : List (BitVec 8) := (List.range' j (8 - j)).map (byteAt b i)
theorem bytesFrom_cons (b : List (BitVec 8)) (i j : Nat) (h : j < 8) : bytesFrom b i j = byteAt b i j :: bytesFrom b i (j + 1) := by
  unfold bytesFrom
  rw [show 8 - j = (8 - (j + 1)) + 1 by omega, List.range'_succ, List.map_cons]
theorem ref_bytes (q : BitVec 64 → BitVec 64 → BitVec 64 → BitVec 64 → Int → Option (BitVec 64)) (b : List (BitVec 8)) (hb : b.length ≤ 140737488351232) (s0 s1 s2 s3 : BitVec 64) (i : Nat) (hi : i ≤ b.length) : ∀ (j k : Nat), j ≤ 8 → j < k →
    passkeyref1SumL5 q b s0 s1 s2 s3 i k (le (bytesFrom b i j)) ((j : Int) - 1) = passkeyref1SumJ4 q s0 s1 s2 s3 i (le (bytesFrom b i 0))
  | 0, k + 1, _, _ => by rw [passkeyref1SumL5, if_neg (by simp)]
  | j + 1, k + 1, hj, hk => by
    have ih := ref_bytes q b hb s0 s1 s2 s3 i hi j k (by omega) (by omega)
    rw [bytesFrom_cons b i j (by omega), le] at ih
    have ej : ((j + 1 : Nat) : Int) - 1 = (j : Int) := by omega
    have ew : w64 ((i : Int) + (j : Int)) = ((i + j : Nat) : Int) := by rw [w64_of (by omega) (by omega)]; omega
    have ew2 : w64 ((j : Int) - 1) = (j : Int) - 1 := w64_of (by omega) (by omega)
    rw [passkeyref1SumL5, ej, if_pos (by simp), ew]
    by_cases h1 : i + j < b.length
    · rw [if_pos (by simp; omega), asq_pos (by omega), passkeyref1SumJ6, ew2, Int.toNat_natCast]
      simp only [byteAt, if_pos h1] at ih
      exact ih
    · rw [if_neg (by simp; omega)]
      by_cases h7 : j = 7
      · rw [if_pos (by simp; omega), passkeyref1SumJ6, ew2]
        simp only [byteAt, if_neg h1, if_pos h7] at ih
        exact ih
      · rw [if_neg (by simp; omega), passkeyref1SumJ6, ew2]
        simp only [byteAt, if_neg h1, if_neg h7] at ih
        exact ih
theorem bytes_whole (b : List (BitVec 8)) (i : Nat) (h : i + 8 ≤ b.length) : bytesFrom b i 0 = (b.drop i).take 8 := by
  apply List.ext_getElem
  · simp [bytesFrom]; omega
  · intro n h1 h2
    simp [bytesFrom] at h1
    simp only [bytesFrom, List.getElem_map, List.getElem_range', List.getElem_take, List.getElem_drop, byteAt]
    rw [if_pos (by omega), List.getD_eq_getElem?_getD, List.getElem?_eq_getElem (by omega)]
    simp
theorem bytes_part (b : List (BitVec 8)) (i : Nat) (h1 : i ≤ b.length) (h2 : b.length < i + 8) : bytesFrom b i 0 = b.drop i ++ (List.replicate (7 - (b.length - i)) 0#8 ++ [BitVec.ofInt 8 b.length]) := by
  apply List.ext_getElem
  · simp [bytesFrom]; omega
  · intro n h3 h4
    simp [bytesFrom] at h3
    simp only [bytesFrom, List.getElem_map, List.getElem_range', byteAt]
    by_cases hn : n < b.length - i
    · rw [if_pos (by omega), List.getElem_append_left (by simp; omega), List.getD_eq_getElem?_getD, List.getElem?_eq_getElem (by omega)]
      simp
    · rw [if_neg (by omega), List.getElem_append_right (by simp; omega)]
      by_cases h7 : n = 7
      · subst h7
        rw [if_pos (by omega), List.getElem_append_right (by simp <;> omega)]
        simp
      · rw [if_neg (by omega), List.getElem_append_left (by simp; omega)]
        rw [List.getElem_replicate]
theorem mod_scale (n X : Nat) : n % 256 % (256 * X) * X % (256 * X) = n % (256 * X) * X % (256 * X) := by
  rw [Nat.mul_mod_mul_right, Nat.mul_mod_mul_right, Nat.mod_mul_right_mod, Nat.mod_mul_right_mod, Nat.mod_mod]
theorem last_eq (n : Nat) : ((BitVec.ofInt 8 (n : Int)).setWidth 64) <<< 56 = (BitVec.ofInt 64 (n : Int)) <<< 56 := by
  apply BitVec.eq_of_toNat_eq
  have h1 : (BitVec.ofInt 8 (n : Int)).toNat = n % 256 := by rw [BitVec.toNat_ofInt]; omega
  have h2 : (BitVec.ofInt 64 (n : Int)).toNat = n % 2 ^ 64 := by
    rw [BitVec.toNat_ofInt]
    norm_cast
  have e : (2 : Nat) ^ 64 = 256 * 2 ^ 56 := by decide
  rw [BitVec.toNat_shiftLeft, BitVec.toNat_shiftLeft, BitVec.toNat_setWidth, h1, h2, Nat.shiftLeft_eq, Nat.shiftLeft_eq, e]
  exact mod_scale n (2 ^ 56)
theorem bytes_part_le (b : List (BitVec 8)) (i : Nat) (h1 : i ≤ b.length) (h2 : b.length < i + 8) : le (bytesFrom b i 0) = (BitVec.ofInt 64 b.length <<< 56) ||| le (b.drop i) := by
  rw [bytes_part b i h1 h2, le_append, le_append, le_zeros]
  simp only [List.length_drop, List.length_replicate, le]
  rw [BitVec.zero_shiftLeft, BitVec.zero_or, BitVec.zero_or, ← BitVec.shiftLeft_add, show 8 * (7 - (b.length - i)) + 8 * (b.length - i) = 56 by omega, last_eq, BitVec.or_comm]
theorem ref_word (s : TDigeststate) (m : BitVec 64) : (passkeyref1round (TA4BitVec64.mk s.v0 s.v1 s.v2 (s.v3 ^^^ m))).bind (fun y => (passkeyref1round y).bind fun z => some (z.c0 ^^^ m, z.c1, z.c2, z.c3)) = some ((sword s m).v0, (sword s m).v1, (sword s m).v2, (sword s m).v3) := by
  have := ref_round_eq ⟨s.v0, s.v1, s.v2, s.v3 ^^^ m⟩
  simp only [toA] at this
  rw [this, Option.bind_some]
  have := ref_round_eq (sround ⟨s.v0, s.v1, s.v2, s.v3 ^^^ m⟩)
  simp only [toA] at this
  rw [this, Option.bind_some]
  rfl
theorem ref_J4 (q : BitVec 64 → BitVec 64 → BitVec 64 → BitVec 64 → Int → Option (BitVec 64)) (s : TDigeststate) (i : Int) (m : BitVec 64) : passkeyref1SumJ4 q s.v0 s.v1 s.v2 s.v3 i m = q (sword s m).v0 (sword s m).v1 (sword s m).v2 (sword s m).v3 (w64 (i + 8)) := by
  have := ref_round_eq ⟨s.v0, s.v1, s.v2, s.v3 ^^^ m⟩
  simp only [toA] at this
  rw [passkeyref1SumJ4, this, Option.bind_some]
  have := ref_round_eq (sround ⟨s.v0, s.v1, s.v2, s.v3 ^^^ m⟩)
  simp only [toA] at this
  rw [this, Option.bind_some]
  rfl
theorem ref_J1 (s : TDigeststate) : passkeyref1SumJ1 s.v0 s.v1 s.v2 s.v3 = some (sfin s) := by
  have h1 := ref_round_eq ⟨s.v0, s.v1, s.v2 ^^^ 255#64, s.v3⟩
  have h2 := ref_round_eq (sround ⟨s.v0, s.v1, s.v2 ^^^ 255#64, s.v3⟩)
  have h3 := ref_round_eq (sround (sround ⟨s.v0, s.v1, s.v2 ^^^ 255#64, s.v3⟩))
  have h4 := ref_round_eq (sround (sround (sround ⟨s.v0, s.v1, s.v2 ^^^ 255#64, s.v3⟩)))
  simp only [toA] at h1 h2 h3 h4
  rw [passkeyref1SumJ1, h1, Option.bind_some, h2, Option.bind_some, h3, Option.bind_some, h4, Option.bind_some]
  rfl
theorem ref_loop (b : List (BitVec 8)) (hb : b.length ≤ 140737488351232) : ∀ (n k i : Nat) (s : TDigeststate), b.length - i ≤ n → i ≤ b.length → n + 1 < k →
    passkeyref1SumL2 b k s.v0 s.v1 s.v2 s.v3 i = some (sfin (sword (sbytes n (b.drop i) s).1 ((BitVec.ofInt 64 b.length <<< 56) ||| le (sbytes n (b.drop i) s).2)))
  | n, k + 1, i, s, h, hi, hk => by
    have e7 : (7 : Int) = ((8 : Nat) : Int) - 1 := by omega
    have e0 : (0#64) = le (bytesFrom b i 8) := by simp [bytesFrom, le]
    have e8 : w64 ((i : Int) + 8) = ((i + 8 : Nat) : Int) := by rw [w64_of (by omega) (by omega)]; omega
    rw [passkeyref1SumL2, if_pos (by simp; omega), e7, e0, ref_bytes _ b hb _ _ _ _ i hi 8 FUEL (Nat.le_refl _) (by simp only [FUEL]; omega), ref_J4, e8]
    by_cases h8 : i + 8 ≤ b.length
    · rw [bytes_whole b i h8]
      cases n with
      | zero => omega
      | succ n =>
        rw [ref_loop b hb n k (i + 8) _ (by omega) h8 (by omega), sbytes, if_pos (by simp; omega), List.drop_drop]
    · rw [bytes_part_le b i hi (by omega)]
      have hs : sbytes n (b.drop i) s = (s, b.drop i) := by
        cases n with
        | zero => rfl
        | succ n => rw [sbytes, if_neg (by simp; omega)]
      rw [hs]
      cases k with
      | zero => omega
      | succ k =>
        rw [passkeyref1SumL2, if_neg (by simp; omega), ref_J1]
theorem ref_sum_eq (k0 k1 : BitVec 64) (b : List (BitVec 8)) (hb : b.length ≤ 140737488351232) : passkeyref1Sum k0 k1 b = some (sip k0 k1 b) := by
  rw [passkeyref1Sum]
  have := ref_loop b hb b.length FUEL 0 (sinit k0 k1) (by omega) (Nat.zero_le _) (by simp only [FUEL]; omega)
  simp only [sinit, List.drop_zero] at this
  exact this
/-! ### words in big-endian order -/
def wordFrom (w : BitVec 64) (j : Nat) : List (BitVec 8) := (List.range' j (8 - j)).map fun i => (w >>> (56 - 8 * i)).setWidth 8
def wordBytes (w : BitVec 64) : List (BitVec 8) := wordFrom w 0
def wordsBytes (l : List (BitVec 64)) : List (BitVec 8) := l.flatMap wordBytes
theorem wordFrom_cons (w : BitVec 64) (j : Nat) (h : j < 8) : wordFrom w j = (w >>> (56 - 8 * j)).setWidth 8 :: wordFrom w (j + 1) := by
  unfold wordFrom
  rw [show 8 - j = (8 - (j + 1)) + 1 by omega, List.range'_succ, List.map_cons]
theorem wordBytes_length (w : BitVec 64) : (wordBytes w).length = 8 := by simp [wordBytes, wordFrom]
theorem wordsBytes_length (l : List (BitVec 64)) : (wordsBytes l).length = 8 * l.length := by
  induction l with
  | nil => rfl
  | cons w l ih => simp only [wordsBytes, List.flatMap_cons, List.length_append, wordBytes_length, List.length_cons] at ih ⊢; omega
theorem wordsBytes_append (l m : List (BitVec 64)) : wordsBytes (l ++ m) = wordsBytes l ++ wordsBytes m := by simp [wordsBytes]
theorem words_inner (q : List (BitVec 8) → Int → Option (List (BitVec 8))) (l : List (BitVec 64)) (n : Nat) : ∀ (m j k : Nat) (out : List (BitVec 8)), j + m = 8 → m < k → out.length + m ≤ 140737488355328 →
    digestWordsL4 q l n k out j = digestWordsJ3 q n (out ++ wordFrom (l.getD n 0#64) j)
  | 0, j, k + 1, out, h, _, _ => by
    rw [digestWordsL4, if_neg (by simp; omega)]
    simp [wordFrom, show j = 8 by omega]
  | m + 1, j, k + 1, out, h, hk, hl => by
    have e1 : w64 (8 * (j : Int)) = ((8 * j : Nat) : Int) := by rw [w64_of (by omega) (by omega)]; omega
    have e2 : w64 (56 - ((8 * j : Nat) : Int)) = ((56 - 8 * j : Nat) : Int) := by rw [w64_of (by omega) (by omega)]; omega
    have e3 : w64 ((j : Int) + 1) = ((j + 1 : Nat) : Int) := by rw [w64_of (by omega) (by omega)]; omega
    rw [digestWordsL4, if_pos (by simp; omega), e1, e2, asq_pos (by omega), lett_def, asq_pos (by simp; omega), e3, words_inner q l n m (j + 1) k _ (by omega) (by omega) (by simp; omega)]
    rw [wordFrom_cons _ j (by omega)]
    simp
theorem words_loop (l : List (BitVec 64)) (hl : l.length * 8 ≤ 140737488351232) : ∀ (m n k : Nat) (out : List (BitVec 8)), n + m = l.length → m < k → out.length = 8 * n → digestWordsL2 l k out n = some (out ++ wordsBytes (l.drop n))
  | 0, n, k + 1, out, h, _, _ => by
    rw [digestWordsL2, if_neg (by simp; omega), digestWordsJ1, List.drop_eq_nil_of_le (by omega)]
    simp [wordsBytes]
  | m + 1, n, k + 1, out, h, hk, ho => by
    have e3 : w64 ((n : Int) + 1) = ((n + 1 : Nat) : Int) := by rw [w64_of (by omega) (by omega)]; omega
    have hn : n < l.length := by omega
    rw [digestWordsL2, if_pos (by simp; omega), asq_pos (by omega), show (0 : Int) = ((0 : Nat) : Int) from rfl, words_inner _ l n 8 0 FUEL out (by omega) (by simp only [FUEL]; omega) (by omega), digestWordsJ3, e3]
    rw [words_loop l hl m (n + 1) k _ (by omega) (by omega) (by have := wordBytes_length (l.getD n 0#64); simp only [wordBytes] at this; rw [List.length_append, this]; omega)]
    have e5 : wordsBytes (l.drop n) = wordBytes (l.getD n 0#64) ++ wordsBytes (l.drop (n + 1)) := by
      rw [List.drop_eq_getElem_cons hn, List.getD_eq_getElem?_getD, List.getElem?_eq_getElem hn]; rfl
    rw [e5, List.append_assoc]; rfl
theorem words_eq (l : List (BitVec 64)) (hl : l.length * 8 ≤ 140737488351232) : digestWords l = some (wordsBytes l) := by
  rw [digestWords]
  have := words_loop l hl l.length 0 FUEL [] (by omega) (by simp only [FUEL]; omega) rfl
  simpa using this
theorem ref_words_inner (q : List (BitVec 8) → Int → Option (List (BitVec 8))) (l : List (BitVec 64)) (n : Nat) (hn : n < l.length) : ∀ (m j k : Nat) (out : List (BitVec 8)), j + m = 8 → m < k → out.length + m ≤ 140737488355328 →
    passkeyref1WordsL4 q l n k out (7 - j) = passkeyref1WordsJ3 q n (out ++ wordFrom (l.getD n 0#64) j)
  | 0, j, k + 1, out, h, _, _ => by
    rw [passkeyref1WordsL4, if_neg (by simp; omega)]
    simp [wordFrom, show j = 8 by omega]
  | m + 1, j, k + 1, out, h, hk, hl => by
    have e1 : w64 (8 * (7 - (j : Int))) = ((56 - 8 * j : Nat) : Int) := by rw [w64_of (by omega) (by omega)]; omega
    have e3 : w64 (7 - (j : Int) - 1) = 7 - ((j + 1 : Nat) : Int) := by rw [w64_of (by omega) (by omega)]; omega
    have e4 : (BitVec.ofInt 64 ((56 - 8 * j : Nat) : Int)).toNat = 56 - 8 * j := by rw [BitVec.toNat_ofInt]; omega
    rw [passkeyref1WordsL4, if_pos (by simp; omega), asq_pos (by omega), e1, e4, lett_def, asq_pos (by simp; omega), e3, ref_words_inner q l n hn m (j + 1) k _ (by omega) (by omega) (by simp; omega)]
    rw [wordFrom_cons _ j (by omega)]
    simp
theorem ref_words_loop (l : List (BitVec 64)) (hl : l.length * 8 ≤ 140737488351232) : ∀ (m n k : Nat) (out : List (BitVec 8)), n + m = l.length → m < k → out.length = 8 * n → passkeyref1WordsL2 l k out n = some (out ++ wordsBytes (l.drop n))
  | 0, n, k + 1, out, h, _, _ => by
    rw [passkeyref1WordsL2, if_neg (by simp; omega), passkeyref1WordsJ1, List.drop_eq_nil_of_le (by omega)]
    simp [wordsBytes]
  | m + 1, n, k + 1, out, h, hk, ho => by
    have e3 : w64 ((n : Int) + 1) = ((n + 1 : Nat) : Int) := by rw [w64_of (by omega) (by omega)]; omega
    have hn : n < l.length := by omega
    rw [passkeyref1WordsL2, if_pos (by simp; omega), show (7 : Int) = 7 - ((0 : Nat) : Int) from rfl, ref_words_inner _ l n hn 8 0 FUEL out (by omega) (by simp only [FUEL]; omega) (by omega), passkeyref1WordsJ3, e3]
    rw [ref_words_loop l hl m (n + 1) k _ (by omega) (by omega) (by have := wordBytes_length (l.getD n 0#64); simp only [wordBytes] at this; rw [List.length_append, this]; omega)]
    have e5 : wordsBytes (l.drop n) = wordBytes (l.getD n 0#64) ++ wordsBytes (l.drop (n + 1)) := by
      rw [List.drop_eq_getElem_cons hn, List.getD_eq_getElem?_getD, List.getElem?_eq_getElem hn]; rfl
    rw [e5, List.append_assoc]; rfl
theorem ref_words_eq (l : List (BitVec 64)) (hl : l.length * 8 ≤ 140737488351232) : passkeyref1Words l = some (wordsBytes l) := by
  rw [passkeyref1Words]
  have := ref_words_loop l hl l.length 0 FUEL [] (by omega) (by simp only [FUEL]; omega) rfl
  simpa using this
end Go.Proofs.Ty
