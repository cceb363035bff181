/- The words and numbers that a law's draws are made from: they come to something, and how long it is. -/
import Derived.Test.YtkiffaadahpbkaaF
import Derived.KernelRfl
set_option linter.unusedSimpArgs false
set_option linter.unusedVariables false
namespace Go.Proofs.Ty
open Go Go.RW
def wordFrom (w : BitVec 64) (j : Nat) : List (BitVec 8) := (List.range' j (8 - j)).map fun i => (w >>> (56 - 8 * i)).setWidth 8
def wordBytes (w : BitVec 64) : List (BitVec 8) := wordFrom w 0
def wordsBytes (l : List (BitVec 64)) : List (BitVec 8) := l.flatMap wordBytes
theorem wordFrom_cons (w : BitVec 64) (j : Nat) (h : j < 8) : wordFrom w j = (w >>> (56 - 8 * j)).setWidth 8 :: wordFrom w (j + 1) := by
  unfold wordFrom
  rw [show 8 - j = (8 - (j + 1)) + 1 by omega, List.range'_succ, List.map_cons]
theorem wordBytes_length (w : BitVec 64) : (wordBytes w).length = 8 := by simp [wordBytes, wordFrom]
theorem wordsBytes_length (l : List (BitVec 64)) : (wordsBytes l).length = 8 * l.length := by
  induction l with
  | nil => rfl
  | cons w l ih => simp only [wordsBytes, List.flatMap_cons, List.length_append, wordBytes_length, List.length_cons] at ih ⊢; omega
theorem wordsBytes_append (l m : List (BitVec 64)) : wordsBytes (l ++ m) = wordsBytes l ++ wordsBytes m := by simp [wordsBytes]
theorem ref_words_inner (q : List (BitVec 8) → Int → Option (List (BitVec 8))) (l : List (BitVec 64)) (n : Nat) (hn : n < l.length) : ∀ (m j k : Nat) (out : List (BitVec 8)), j + m = 8 → m < k → out.length + m ≤ 140737488355328 →
    passkeyref1WordsL4 q l n k out (7 - j) = passkeyref1WordsJ3 q n (out ++ wordFrom (l.getD n 0#64) j)
  | 0, j, k + 1, out, h, _, _ => by
    rw [passkeyref1WordsL4, if_neg (by simp; omega)]
    simp [wordFrom, show j = 8 by omega]
  | m + 1, j, k + 1, out, h, hk, hl => by
    have e1 : w64 (8 * (7 - (j : Int))) = ((56 - 8 * j : Nat) : Int) := by rw [w64_of (by omega) (by omega)]; omega
    have e3 : w64 (7 - (j : Int) - 1) = 7 - ((j + 1 : Nat) : Int) := by rw [w64_of (by omega) (by omega)]; omega
    have e4 : (BitVec.ofInt 64 ((56 - 8 * j : Nat) : Int)).toNat = 56 - 8 * j := by rw [BitVec.toNat_ofInt]; omega
    rw [passkeyref1WordsL4, if_pos (by simp; omega), asq_pos (by omega), e1, e4, lett_def, asq_pos (by simp; omega), e3, ref_words_inner q l n hn m (j + 1) k _ (by omega) (by omega) (by simp; omega)]
    rw [wordFrom_cons _ j (by omega)]
    simp
theorem ref_words_loop (l : List (BitVec 64)) (hl : l.length * 8 ≤ 140737488351232) : ∀ (m n k : Nat) (out : List (BitVec 8)), n + m = l.length → m < k → out.length = 8 * n → passkeyref1WordsL2 l k out n = some (out ++ wordsBytes (l.drop n))
  | 0, n, k + 1, out, h, _, _ => by
    rw [passkeyref1WordsL2, if_neg (by simp; omega), passkeyref1WordsJ1, List.drop_eq_nil_of_le (by omega)]
    simp [wordsBytes]
  | m + 1, n, k + 1, out, h, hk, ho => by
    have e3 : w64 ((n : Int) + 1) = ((n + 1 : Nat) : Int) := by rw [w64_of (by omega) (by omega)]; omega
    have hn : n < l.length := by omega
    rw [passkeyref1WordsL2, if_pos (by simp; omega), show (7 : Int) = 7 - ((0 : Nat) : Int) from rfl, ref_words_inner _ l n hn 8 0 FUEL out (by omega) (by simp only [FUEL]; omega) (by omega), passkeyref1WordsJ3, e3]
    rw [ref_words_loop l hl m (n + 1) k _ (by omega) (by omega) (by have := wordBytes_length (l.getD n 0#64); simp only [wordBytes] at this; rw [List.length_append, this]; omega)]
    have e5 : wordsBytes (l.drop n) = wordBytes (l.getD n 0#64) ++ wordsBytes (l.drop (n + 1)) := by
      rw [List.drop_eq_getElem_cons hn, List.getD_eq_getElem?_getD, List.getElem?_eq_getElem hn]; rfl
    rw [e5, List.append_assoc]; rfl
theorem ref_words_eq (l : List (BitVec 64)) (hl : l.length * 8 ≤ 140737488351232) : passkeyref1Words l = some (wordsBytes l) := by
  rw [passkeyref1Words]
  have := ref_words_loop l hl l.length 0 FUEL [] (by omega) (by simp only [FUEL]; omega) rfl
  simpa using this
theorem refround_tot (s : TA4BitVec64) : ∃ t, passkeyref1round s = some t := ⟨_, rfl⟩
theorem refJ4_tot (q : (BitVec 64) → (BitVec 64) → (BitVec 64) → (BitVec 64) → Int → Option (BitVec 64)) (a b c d m : BitVec 64) (i : Int) : ∃ a' b' c' d', passkeyref1SumJ4 q a b c d i m = q a' b' c' d' (w64 (i + 8)) := ⟨_, _, _, _, rfl⟩
theorem refJ1_tot (a b c d : BitVec 64) : ∃ w, passkeyref1SumJ1 a b c d = some w := ⟨_, rfl⟩
theorem refL5_tot (q : (BitVec 64) → (BitVec 64) → (BitVec 64) → (BitVec 64) → Int → Option (BitVec 64)) (l : List (BitVec 8)) (hl : l.length ≤ 140737488351232) (a b c d : BitVec 64) (i : Nat) (hi : i ≤ l.length) : ∀ (j k : Nat) (v : BitVec 64), j ≤ 8 → j < k → ∃ m, passkeyref1SumL5 q l a b c d i k v ((j : Int) - 1) = passkeyref1SumJ4 q a b c d i m
  | 0, k + 1, v, _, _ => by rw [passkeyref1SumL5, if_neg (by simp)]; exact ⟨_, rfl⟩
  | j + 1, k + 1, v, hj, hk => by
    have e1 : ((j + 1 : Nat) : Int) - 1 = (j : Int) := by omega
    have e2 : w64 ((i : Int) + j) = ((i + j : Nat) : Int) := by rw [w64_of (by omega) (by omega)]; omega
    have e3 : w64 ((j : Int) - 1) = (j : Int) - 1 := w64_of (by omega) (by omega)
    rw [e1, passkeyref1SumL5, if_pos (by simp), e2]
    have ih := refL5_tot q l hl a b c d i hi j k
    split
    · rename_i h
      rw [asq_pos (by simp at h; omega), passkeyref1SumJ6, e3]
      exact ih _ (by omega) (by omega)
    · split
      · rw [passkeyref1SumJ6, e3]; exact ih _ (by omega) (by omega)
      · rw [passkeyref1SumJ6, e3]; exact ih _ (by omega) (by omega)
theorem refL2_tot (l : List (BitVec 8)) (hl : l.length ≤ 140737488351232) : ∀ (n k i : Nat) (a b c d : BitVec 64), l.length + 1 - i ≤ n → i ≤ l.length + 8 → n < k → ∃ w, passkeyref1SumL2 l k a b c d i = some w
  | 0, k + 1, i, a, b, c, d, h, _, _ => by rw [passkeyref1SumL2, if_neg (by simp; omega)]; exact refJ1_tot ..
  | n + 1, k + 1, i, a, b, c, d, h, hi, hk => by
    rw [passkeyref1SumL2]
    split
    · rename_i hc
      have hc' : i ≤ l.length := by simp at hc; omega
      obtain ⟨m, hm⟩ := refL5_tot (passkeyref1SumL2 l k) l hl a b c d i hc' 8 FUEL 0#64 (by omega) (by simp only [FUEL]; omega)
      obtain ⟨a', b', c', d', h4⟩ := refJ4_tot (passkeyref1SumL2 l k) a b c d m i
      have e2 : w64 ((i : Int) + 8) = ((i + 8 : Nat) : Int) := by rw [w64_of (by omega) (by omega)]; omega
      rw [show ((8 : Nat) : Int) - 1 = 7 from rfl] at hm
      rw [hm, h4, e2]
      exact refL2_tot l hl n k (i + 8) _ _ _ _ (by omega) (by omega) (by omega)
    · exact refJ1_tot ..
theorem refsum_tot (k0 k1 : BitVec 64) (l : List (BitVec 8)) (hl : l.length ≤ 140737488351232) : ∃ w, passkeyref1Sum k0 k1 l = some w := by
  rw [passkeyref1Sum]
  exact refL2_tot l hl (l.length + 1) FUEL 0 _ _ _ _ (by omega) (by omega) (by simp only [FUEL]; omega)
theorem refmac_tot (k0 : BitVec 64) (d : Int) (l : List (BitVec 8)) (hl : l.length ≤ 140737488351232) : ∃ w, passkeyref1Mac k0 d l = some w := by
  obtain ⟨w, hw⟩ := refsum_tot k0 (1#64 + BitVec.ofInt 64 d) l hl
  exact ⟨w, by rw [passkeyref1Mac, hw]; rfl⟩
theorem stream_loop (a b : BitVec 64) (v : Nat) (hv : v ≤ 1024) : ∀ (m k : Nat) (out : List (BitVec 8)) (i : Int), v ≤ out.length + 8 * m → out.length ≤ v + 8 → m < k → ∃ ys, passkeyref3StreamL2 a b v k out i = some ys ∧ ys.length = v
  | m, k + 1, out, i, h, h2, hk => by
    rw [passkeyref3StreamL2]
    by_cases hc : out.length < v
    · rw [if_pos (by simp; omega), ref_words_eq _ (by simp), Option.bind_some]
      obtain ⟨w, hw⟩ := refmac_tot a 5 (wordsBytes [b, BitVec.ofInt 64 i]) (by rw [wordsBytes_length]; simp)
      rw [hw, Option.bind_some, ref_words_eq _ (by simp), Option.bind_some]
      have hlen : (out ++ wordsBytes [w]).length = out.length + 8 := by rw [List.length_append, wordsBytes_length]; rfl
      rw [asq_pos (by rw [hlen]; omega)]
      match m, h, hk with
      | 0, h, hk => omega
      | m + 1, h, hk => exact stream_loop a b v hv m k _ _ (by rw [hlen]; omega) (by rw [hlen]; omega) (by omega)
    · rw [if_neg (by simp; omega), passkeyref3StreamJ1, asq_pos (by omega)]
      refine ⟨_, rfl, ?_⟩
      simp; omega
def clip (n : Int) : Nat := if n < 0 then 0 else if 1024 < n then 1024 else n.toNat
theorem stream_tot (a b : BitVec 64) (n : Int) : ∃ ys, passkeyref3Stream a b n = some ys ∧ ys.length = clip n := by
  rw [passkeyref3Stream, lett_def]
  have : (if (1024 : Int) < (if (0 : Int) > n then (0 : Int) else n) then (1024 : Int) else (if (0 : Int) > n then (0 : Int) else n)) = (clip n : Int) := by
    unfold clip; repeat' split
    all_goals omega
  rw [this]
  have hc : clip n ≤ 1024 := by
    unfold clip; repeat' split
    all_goals omega
  exact stream_loop a b (clip n) hc 128 FUEL [] 0 (by simp; omega) (by simp) (by simp only [FUEL]; omega)
theorem bytes_tot (a n : Int) : ∃ ys, passkeycastBytes a n = some ys ∧ ys.length = clip n := by
  rw [passkeycastBytes, lett_def]
  obtain ⟨ys, h1, h2⟩ := stream_tot (BitVec.ofInt 64 a + 1#64) 7#64 (if (0 : Int) > (if (1024 : Int) < n then (1024 : Int) else n) then (0 : Int) else (if (1024 : Int) < n then (1024 : Int) else n))
  refine ⟨ys, by rw [h1]; rfl, ?_⟩
  rw [h2]; unfold clip
  repeat' split
  all_goals omega
theorem mod_tot (a n : Int) (h0 : 0 < n) (h1 : n < 9223372036854775808) : ∃ x, passkeycastMod a n = some x ∧ 0 ≤ x ∧ x < n := by
  have hn : (BitVec.ofInt 64 n).toNat = n.toNat := by rw [BitVec.toNat_ofInt]; omega
  have h2 : ((BitVec.ofInt 64 a) % (BitVec.ofInt 64 n)).toNat < n.toNat := by
    rw [BitVec.toNat_umod, hn]; exact Nat.mod_lt _ (by omega)
  have h3 : ((BitVec.ofInt 64 a) % (BitVec.ofInt 64 n)).toInt = (((BitVec.ofInt 64 a) % (BitVec.ofInt 64 n)).toNat : Int) := by
    rw [BitVec.toInt_eq_toNat_of_lt (by omega)]
  refine ⟨_, by rw [passkeycastMod, asq_pos]; intro h; rw [h] at hn; simp at hn; omega, ?_⟩
  rw [h3]; omega
end Go.Proofs.Ty
