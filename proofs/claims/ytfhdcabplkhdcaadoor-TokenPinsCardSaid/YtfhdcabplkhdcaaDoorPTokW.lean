/- The PIN protocol's words: law TokenWords. -/
import Derived.Test.YtfhdcabplkhdcaaDoorPOpen
import Derived.Test.YtfhdcabplkhdcaaDoorPTok
set_option linter.unusedSimpArgs false
set_option linter.unusedVariables false
namespace Go.Proofs.Ty
open Go Go.RW
theorem sealWord_eq (k n w : BitVec 64) : tokenSealWord k n w = some (sbox k n [] (wordBytes w)) := by
  rw [tokenSealWord, words_n _ (Nat.le_of_ble_eq_true rfl), Option.bind_some, seal_eq, Option.bind_some, words1, sealS, if_neg (by rw [wordBytes_length]; simp)]
theorem refSealWord_eq (k n w : BitVec 64) : passkeyref10SealWord k n w = some (sbox k n [] (wordBytes w)) := by
  rw [passkeyref10SealWord, ref_words_n _ (Nat.le_of_ble_eq_true rfl), Option.bind_some, refSeal_eq, Option.bind_some, words1, sealS, if_neg (by rw [wordBytes_length]; simp)]
theorem openWord_loop (l : List (BitVec 8)) (e : Int) (hl : l.length = 8) : ∀ (m f i : Nat) (v : BitVec 64), i + m = 8 → m < f → tokenOpenWordL2 (l, e) f v (i : Int) = some ((l.drop i).foldl beStep v, 0)
  | 0, f + 1, i, v, h, _ => by
    rw [tokenOpenWordL2, if_neg (by rw [decide_eq_true_eq]; show ¬ ((i : Int) < (l.length : Int)); omega), tokenOpenWordJ1, List.drop_eq_nil_of_le (by omega)]; rfl
  | m + 1, f + 1, i, v, h, hf => by
    have e2 : w64 ((i : Int) + 1) = ((i + 1 : Nat) : Int) := by rw [w64_of (by omega) (by omega)]; omega
    rw [fold_drop (l := l) (i := i) (by omega) v, tokenOpenWordL2, if_pos (by rw [decide_eq_true_eq]; show (i : Int) < (l.length : Int); omega), asq_pos (by show 0 ≤ (i : Int) ∧ (i : Int) < (l.length : Int); omega), lett_def, e2, openWord_loop l e hl m f (i + 1) _ (by omega) (by omega)]
    simp only [Nat.zero_add, Int.toNat_natCast]
def openWordS (k : BitVec 64) (box : List (BitVec 8)) : BitVec 64 × Int :=
  if (openS k [] box).2 ≠ 0 then (0#64, (openS k [] box).2) else if (openS k [] box).1.length ≠ 8 then (0#64, 2) else (beW (openS k [] box).1, 0)
theorem openWord_eq (k : BitVec 64) (box : List (BitVec 8)) : tokenOpenWord k box = some (openWordS k box) := by
  rw [tokenOpenWord, open_eq, Option.bind_some]
  by_cases c : (openS k [] box).2 = 0
  · rw [if_neg (show ¬ (((openS k [] box).2 != 0) = true) by simp [c])]
    by_cases d : (openS k [] box).1.length = 8
    · have e : openWordS k box = (beW (openS k [] box).1, 0) := by rw [openWordS, if_neg (show ¬ ((openS k [] box).2 ≠ 0) by simpa using c), if_neg (show ¬ ((openS k [] box).1.length ≠ 8) by simpa using d)]
      rw [if_neg (show ¬ ((((openS k [] box).1.length : Int) != 8) = true) by rw [d]; decide), e]
      exact openWord_loop (openS k [] box).1 (openS k [] box).2 d 8 FUEL 0 0#64 (by omega) (by simp only [FUEL]; omega)
    · have e : openWordS k box = (0#64, 2) := by rw [openWordS, if_neg (show ¬ ((openS k [] box).2 ≠ 0) by simpa using c), if_pos d]
      rw [if_pos (show (((openS k [] box).1.length : Int) != 8) = true by rw [bne_iff_ne]; omega), e]
  · have e : openWordS k box = (0#64, (openS k [] box).2) := by rw [openWordS, if_pos c]
    rw [if_pos (show ((openS k [] box).2 != 0) = true by rw [bne_iff_ne]; exact c), e]
theorem refOpenWord_eq (k : BitVec 64) (box : List (BitVec 8)) : passkeyref10OpenWord k box = some (openWordS k box) := by
  rw [passkeyref10OpenWord, refOpen_eq, Option.bind_some]
  by_cases c : (openS k [] box).2 = 0
  · rw [if_neg (show ¬ (((openS k [] box).2 != 0) = true) by simp [c])]
    by_cases d : (openS k [] box).1.length = 8
    · have e : openWordS k box = (beW (openS k [] box).1, 0) := by rw [openWordS, if_neg (show ¬ ((openS k [] box).2 ≠ 0) by simpa using c), if_neg (show ¬ ((openS k [] box).1.length ≠ 8) by simpa using d)]
      rw [if_neg (show ¬ ((((openS k [] box).1.length : Int) != 8) = true) by rw [d]; decide), e, refWord_eq _ d]; rfl
    · have e : openWordS k box = (0#64, 2) := by rw [openWordS, if_neg (show ¬ ((openS k [] box).2 ≠ 0) by simpa using c), if_pos d]
      rw [if_pos (show (((openS k [] box).1.length : Int) != 8) = true by rw [bne_iff_ne]; omega), e]
  · have e : openWordS k box = (0#64, (openS k [] box).2) := by rw [openWordS, if_pos c]
    rw [if_pos (show ((openS k [] box).2 != 0) = true by rw [bne_iff_ne]; exact c), e]
theorem law_words (k : BitVec 64) (box : List (BitVec 8)) : passkeylaw12words k box = some true := by
  rw [passkeylaw12words, openWord_eq, Option.bind_some, refOpenWord_eq, Option.bind_some, if_pos (beq_self_eq_true _), beq_self_eq_true]
theorem tokenWords_holds (a0 a1 a2 : BitVec 64) (a3 : List (BitVec 8)) (a4 : BitVec 8) (h3 : a3.length ≤ 140737488351232) : passkeylaw12TokenWords a0 a1 a2 a3 a4 = some true := by
  rw [passkeylaw12TokenWords]
  split
  · rw [awake_eq]; rfl
  have hlt := (a4 % 12#8).isLt
  rw [asq_pos (by omega), refSeal_eq, Option.bind_some, sealWord_eq, Option.bind_some, refSealWord_eq, Option.bind_some, if_pos (beq_self_eq_true _), law_words, Option.bind_some, if_pos rfl, law_words, Option.bind_some, if_pos rfl, law_words, Option.bind_some, if_pos rfl, awake_eq]; rfl
end Go.Proofs.Ty
