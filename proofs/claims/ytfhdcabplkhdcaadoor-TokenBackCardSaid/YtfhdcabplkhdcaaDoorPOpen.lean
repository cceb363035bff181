/- Boxes are opened. -/
import Derived.Test.YtfhdcabplkhdcaaDoorPSeal
set_option linter.unusedSimpArgs false
set_option linter.unusedVariables false
namespace Go.Proofs.Ty
open Go Go.RW
theorem word_loop (l : List (BitVec 8)) (hl : l.length = 8) : ∀ (m f i : Nat) (v : BitVec 64), i + m = 8 → m < f → sealwordL2 l f v (i : Int) = some ((l.drop i).foldl beStep v)
  | m, f, i, v, hm, hf => by
    obtain ⟨f, rfl⟩ : ∃ g, f = g + 1 := ⟨f - 1, by omega⟩
    rw [sealwordL2]
    cases m with
    | zero => rw [if_neg (by rw [decide_eq_true_eq]; omega), sealwordJ1, List.drop_of_length_le (by omega)]; rfl
    | succ m =>
      rw [if_pos (by rw [decide_eq_true_eq]; omega), asq_pos (by omega), Int.toNat_natCast, w64_of (by omega) (by omega), fold_drop (by omega)]
      exact word_loop l hl m f (i + 1) _ (by omega) (by omega)
theorem sealword_eq (l : List (BitVec 8)) (hl : l.length = 8) : sealword l = some (beW l) := by
  rw [sealword, asq_pos hl.symm]
  exact word_loop l hl 8 FUEL 0 0#64 rfl (by simp only [FUEL]; omega)
theorem refWord_loop (l : List (BitVec 8)) (hl : l.length = 8) : ∀ (m f i : Nat) (v : BitVec 64), i + m = 8 → m < f → passkeyref1WordL2 l f v (i : Int) = some ((l.drop i).foldl beStep v)
  | m, f, i, v, hm, hf => by
    obtain ⟨f, rfl⟩ : ∃ g, f = g + 1 := ⟨f - 1, by omega⟩
    rw [passkeyref1WordL2]
    cases m with
    | zero => rw [if_neg (by rw [decide_eq_true_eq]; omega), passkeyref1WordJ3, if_neg (by simp), passkeyref1WordJ1, List.drop_of_length_le (by omega)]; rfl
    | succ m =>
      rw [if_pos (by rw [decide_eq_true_eq]; omega), passkeyref1WordJ3, if_pos (by rw [decide_eq_true_eq]; omega), asq_pos (by omega), Int.toNat_natCast, w64_of (by omega) (by omega), fold_drop (by omega)]
      exact refWord_loop l hl m f (i + 1) _ (by omega) (by omega)
theorem refWord_eq (l : List (BitVec 8)) (hl : l.length = 8) : passkeyref1Word l = some (beW l) := by
  rw [passkeyref1Word]
  exact refWord_loop l hl 8 FUEL 0 0#64 rfl (by simp only [FUEL]; omega)
/-- The opening of a box. -/
def openS (k : BitVec 64) (bound box : List (BitVec 8)) : List (BitVec 8) × Int :=
  if box.length < 16 then ([], 1) else if 1040 < box.length ∨ 1024 < bound.length then ([], 8) else
    if beW (box.drop (box.length - 8)) = stag k (beW (box.take 8)) bound ((box.drop 8).take (box.length - 16)) then (smix k (beW (box.take 8)) ((box.drop 8).take (box.length - 16)), 0) else ([], 14)
theorem openS_in (k : BitVec 64) (bound box : List (BitVec 8)) (h1 : 16 ≤ box.length) (h2 : box.length ≤ 1040) (h3 : bound.length ≤ 1024) : openS k bound box = if beW (box.drop (box.length - 8)) = stag k (beW (box.take 8)) bound ((box.drop 8).take (box.length - 16)) then (smix k (beW (box.take 8)) ((box.drop 8).take (box.length - 16)), 0) else ([], 14) := by
  rw [openS, if_neg (by omega), if_neg (by omega)]
theorem beW_eq {l : List (BitVec 8)} (hl : l.length = 8) (w : BitVec 64) : beW l = w ↔ l = wordBytes w := by
  constructor
  · rintro rfl; exact (wordBytes_beW hl).symm
  · rintro rfl; exact beW_wordBytes w
theorem open_in (k : BitVec 64) (bound box : List (BitVec 8)) (h1 : 16 ≤ box.length) (h2 : box.length ≤ 1040) (h3 : bound.length ≤ 1024) : sealOpenJ1 k bound box false = some (openS k bound box) := by
  have t8 : (box.take 8).length = 8 := by rw [List.length_take]; omega
  have d8 : (box.drop (box.length - 8)).length = 8 := by rw [List.length_drop]; omega
  have w8 : (w64 ((box.length : Int) - 8)) = ((box.length - 8 : Nat) : Int) := by rw [w64_of (by omega) (by omega)]; omega
  have e1 : dropTake 0 (8 : Int).toNat box = box.take 8 := dropTake_zero 8 box
  have e2 : dropTake (8 : Int).toNat (box.length - 8) box = (box.drop 8).take (box.length - 16) := by
    show (box.drop 8).take (box.length - 8 - 8) = _
    rw [show box.length - 8 - 8 = box.length - 16 by omega]
  have m8 : ((box.drop 8).take (box.length - 16)).length ≤ 1024 := by rw [List.length_take, List.length_drop]; omega
  rw [sealOpenJ1, if_neg (by simp), asq_pos (by omega), e1, asq_pos (by omega), List.take_of_length_le (i := 8) (l := box.take 8) (by omega), asq_pos (by omega), sealword_eq _ t8, Option.bind_some, w8, asq_pos (by omega), lett_def, asq_pos (by omega), lett_def, Int.toNat_natCast, e2, dropTake_end,
    asq_pos (by omega), List.take_of_length_le (i := 8) (l := box.drop (box.length - 8)) (by omega), asq_pos d8.symm, asq_pos (by rw [List.length_replicate]; omega), asq_pos d8.symm, tag_eq _ _ _ _ (by omega) (by omega), Option.bind_some, asq_pos ⟨d8, wordBytes_length _⟩]
  rw [openS_in k bound box h1 h2 h3]
  by_cases h : beW (box.drop (box.length - 8)) = stag k (beW (box.take 8)) bound ((box.drop 8).take (box.length - 16))
  · have h' := (beW_eq d8 _).1 h
    rw [if_pos h, h', if_neg (by simp), mixed_eq _ _ _ m8, Option.bind_some]
  · have h' : ¬ box.drop (box.length - 8) = wordBytes _ := fun e => h ((beW_eq d8 _).2 e)
    rw [if_neg h, if_pos (by simp only [Bool.not_eq_true', beq_eq_false_iff_ne, ne_eq]; exact h')]
theorem open_eq (k : BitVec 64) (bound box : List (BitVec 8)) : sealOpen k bound box = some (openS k bound box) := by
  rw [sealOpen]
  by_cases h1 : box.length < 16
  · rw [if_pos (by rw [decide_eq_true_eq]; omega), openS, if_pos h1]
  rw [if_neg (by rw [decide_eq_true_eq]; omega)]
  by_cases h2 : 1040 < box.length
  · rw [if_pos (by rw [decide_eq_true_eq]; omega), openS, if_neg h1, if_pos (Or.inl h2)]; rfl
  rw [if_neg (by rw [decide_eq_true_eq]; omega)]
  by_cases h3 : 1024 < bound.length
  · rw [decide_eq_true (by omega), openS, if_neg h1, if_pos (Or.inr h3)]; rfl
  rw [decide_eq_false (by omega), open_in _ _ _ (by omega) (by omega) (by omega)]
theorem refOpen_in (k : BitVec 64) (bound box : List (BitVec 8)) (h1 : 16 ≤ box.length) (h2 : box.length ≤ 1040) (h3 : bound.length ≤ 1024) : passkeyref3OpenJ1 k bound box false = some (openS k bound box) := by
  have t8 : (box.take 8).length = 8 := by rw [List.length_take]; omega
  have d8 : (box.drop (box.length - 8)).length = 8 := by rw [List.length_drop]; omega
  have w8 : (w64 ((box.length : Int) - 8)) = ((box.length - 8 : Nat) : Int) := by rw [w64_of (by omega) (by omega)]; omega
  have e1 : dropTake 0 (8 : Int).toNat box = box.take 8 := dropTake_zero 8 box
  have e2 : dropTake (8 : Int).toNat (box.length - 8) box = (box.drop 8).take (box.length - 16) := by
    show (box.drop 8).take (box.length - 8 - 8) = _
    rw [show box.length - 8 - 8 = box.length - 16 by omega]
  have m8 : ((box.drop 8).take (box.length - 16)).length ≤ 1024 := by rw [List.length_take, List.length_drop]; omega
  rw [passkeyref3OpenJ1, if_neg (by simp), asq_pos (by omega), e1, refWord_eq _ t8, Option.bind_some, w8, asq_pos (by omega), lett_def, asq_pos (by omega), lett_def, Int.toNat_natCast, e2, dropTake_end, refWord_eq _ d8, Option.bind_some, refTag_eq _ _ _ _ (by omega) (by omega), Option.bind_some]
  rw [openS_in k bound box h1 h2 h3]
  by_cases h : beW (box.drop (box.length - 8)) = stag k (beW (box.take 8)) bound ((box.drop 8).take (box.length - 16))
  · rw [if_pos h, h, if_neg (by simp), mix_eq _ _ _ m8, Option.bind_some]
  · rw [if_neg h, if_pos (by simp only [bne_iff_ne, ne_eq]; exact h)]
theorem refOpen_eq (k : BitVec 64) (bound box : List (BitVec 8)) : passkeyref3Open k bound box = some (openS k bound box) := by
  rw [passkeyref3Open]
  by_cases h1 : box.length < 16
  · rw [if_pos (by rw [decide_eq_true_eq]; omega), openS, if_pos h1]
  rw [if_neg (by rw [decide_eq_true_eq]; omega)]
  by_cases h2 : 1040 < box.length
  · rw [if_pos (by rw [decide_eq_true_eq]; omega), openS, if_neg h1, if_pos (Or.inl h2)]; rfl
  rw [if_neg (by rw [decide_eq_true_eq]; omega)]
  by_cases h3 : 1024 < bound.length
  · rw [decide_eq_true (by omega), openS, if_neg h1, if_pos (Or.inr h3)]; rfl
  rw [decide_eq_false (by omega), refOpen_in _ _ _ (by omega) (by omega) (by omega)]
/-- A box is opened. -/
theorem open_box (k n : BitVec 64) (bound text : List (BitVec 8)) (h1 : text.length ≤ 1024) (h2 : bound.length ≤ 1024) : openS k bound (sbox k n bound text) = (text, 0) := by
  have hl := sbox_length k n bound text h1
  have hm := smix_length k n text h1
  have e1 : (sbox k n bound text).take 8 = wordBytes n := by
    rw [sbox, List.append_assoc, List.take_append_of_le_length (by rw [wordBytes_length]; omega), List.take_of_length_le (by rw [wordBytes_length]; omega)]
  have e2 : ((sbox k n bound text).drop 8).take ((sbox k n bound text).length - 16) = smix k n text := by
    rw [sbox, List.append_assoc, List.drop_append_of_le_length (by rw [wordBytes_length]; omega), List.drop_of_length_le (by rw [wordBytes_length]; omega), List.nil_append, ← List.append_assoc, ← sbox, hl, List.take_append_of_le_length (by omega), List.take_of_length_le (by omega)]
  have e3 : (sbox k n bound text).drop ((sbox k n bound text).length - 8) = wordBytes (stag k n bound (smix k n text)) := by
    have : (wordBytes n ++ smix k n text).length = text.length + 8 := by rw [List.length_append, wordBytes_length, hm]; omega
    rw [hl, sbox, List.drop_append, this, List.drop_of_length_le (by omega), List.nil_append, show text.length + 16 - 8 - (text.length + 8) = 0 by omega, List.drop_zero]
  rw [openS, if_neg (by omega), if_neg (by omega), e1, e2, e3, beW_wordBytes, beW_wordBytes, if_pos rfl, smix_smix _ _ _ h1]
/-- What is opened is the box of its text. -/
theorem open_only (k : BitVec 64) (bound box t : List (BitVec 8)) (h : openS k bound box = (t, 0)) : 16 ≤ box.length ∧ sealS k (beW (box.take 8)) bound t = (box, 0) := by
  unfold openS at h
  split at h
  · simp at h
  rename_i h1
  split at h
  · simp at h
  rename_i h2
  split at h
  · rename_i h3
    simp only [Prod.mk.injEq, and_true] at h
    have t8 : (box.take 8).length = 8 := by rw [List.length_take]; omega
    have d8 : (box.drop (box.length - 8)).length = 8 := by rw [List.length_drop]; omega
    have m8 : ((box.drop 8).take (box.length - 16)).length = box.length - 16 := by rw [List.length_take, List.length_drop]; omega
    have ht : t.length = box.length - 16 := by rw [← h, smix_length _ _ _ (by omega), m8]
    refine ⟨by omega, ?_⟩
    have e : smix k (beW (box.take 8)) t = (box.drop 8).take (box.length - 16) := by rw [← h, smix_smix _ _ _ (by omega)]
    rw [sealS, if_neg (by omega), sbox, e, ← h3, wordBytes_beW t8, wordBytes_beW d8]
    congr 1
    have : box.drop (box.length - 8) = (box.drop 8).drop (box.length - 16) := by rw [List.drop_drop, show 8 + (box.length - 16) = box.length - 8 by omega]
    rw [List.append_assoc, this, List.take_append_drop, List.take_append_drop]
  · simp at h
end Go.Proofs.Ty
