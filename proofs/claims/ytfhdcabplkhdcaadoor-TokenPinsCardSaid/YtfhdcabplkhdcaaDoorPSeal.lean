/- The stream, the box and its opening, as the chapter says; both programs come to them. -/
import Derived.Test.YtfhdcabplkhdcaaDoorPMac
set_option linter.unusedSimpArgs false
set_option linter.unusedVariables false
namespace Go.Proofs.Ty
open Go Go.RW
/-- Block i of the stream. -/
def sblock (k n : BitVec 64) (i : Nat) : List (BitVec 8) := wordsBytes [smac k 5 (wordsBytes [n, BitVec.ofNat 64 i])]
def spre (k n : BitVec 64) (i : Nat) : List (BitVec 8) := (List.range i).flatMap (sblock k n)
theorem sblock_length (k n : BitVec 64) (i : Nat) : (sblock k n i).length = 8 := by rw [sblock, wordsBytes_length]; rfl
theorem spre_succ (k n : BitVec 64) (i : Nat) : spre k n (i + 1) = spre k n i ++ sblock k n i := by
  rw [spre, List.range_succ, List.flatMap_append]; simp [spre]
theorem spre_length (k n : BitVec 64) : ∀ i, (spre k n i).length = 8 * i
  | 0 => rfl
  | i + 1 => by rw [spre_succ, List.length_append, spre_length k n i, sblock_length]; omega
theorem spre_take (k n : BitVec 64) (v : Nat) : ∀ (d i : Nat), v ≤ 8 * i → (spre k n (i + d)).take v = (spre k n i).take v
  | 0, i, _ => rfl
  | d + 1, i, h => by
    rw [← Nat.add_assoc, spre_succ, List.take_append_of_le_length (by rw [spre_length]; omega)]
    exact spre_take k n v d i h
/-- All bytes that a stream may have. -/
def sall (k n : BitVec 64) : List (BitVec 8) := spre k n 128
theorem sall_length (k n : BitVec 64) : (sall k n).length = 1024 := spre_length k n 128
theorem sall_take (k n : BitVec 64) {v i : Nat} (h : v ≤ 8 * i) (hi : i ≤ 128) : (sall k n).take v = (spre k n i).take v := by
  have := spre_take k n v (128 - i) i h
  rwa [show i + (128 - i) = 128 by omega] at this
def clip (n : Int) : Nat := if n < 0 then 0 else if 1024 < n then 1024 else n.toNat
theorem clip_le (n : Int) : clip n ≤ 1024 := by unfold clip; split <;> (try split) <;> omega
theorem clip_nat (n : Nat) (h : n ≤ 1024) : clip (n : Int) = n := by unfold clip; split <;> (try split) <;> omega
theorem smac_in (n m : BitVec 64) : (wordsBytes [n, m]).length ≤ 140737488351232 := by have := words_short [n, m] (Nat.le_of_ble_eq_true rfl); omega
theorem ofNat_succ (i : Nat) : BitVec.ofNat 64 i + 1#64 = BitVec.ofNat 64 (i + 1) := by
  apply BitVec.eq_of_toNat_eq; simp [BitVec.toNat_add]
theorem clip_prog (z : Int) : (if (if (1024 : Int) < z then (1024 : Int) else z) > (0 : Int) then (if (1024 : Int) < z then (1024 : Int) else z) else (0 : Int)) = (clip z : Int) := by
  unfold clip; split <;> split <;> (try split) <;> omega
theorem streamOwn_loop (k n : BitVec 64) (v : Nat) (hv : v ≤ 1024) : ∀ (m f i : Nat), v ≤ 8 * (i + m) → i ≤ 128 → m < f → sealStreamOwnL2 k n v f (spre k n i) (BitVec.ofNat 64 i) = some ((sall k n).take v)
  | m, f, i, hm, hi, hf => by
    obtain ⟨f, rfl⟩ : ∃ g, f = g + 1 := ⟨f - 1, by omega⟩
    rw [sealStreamOwnL2]
    by_cases h : 8 * i < v
    · obtain ⟨m, rfl⟩ : ∃ g, m = g + 1 := ⟨m - 1, by omega⟩
      rw [if_pos (by simp only [spre_length, decide_eq_true_eq]; omega), words_n _ (Nat.le_of_ble_eq_true rfl), Option.bind_some, mac_eq _ _ _ (smac_in _ _), Option.bind_some, words_n _ (Nat.le_of_ble_eq_true rfl), Option.bind_some]
      have e : spre k n i ++ wordsBytes [smac k 5 (wordsBytes [n, BitVec.ofNat 64 i])] = spre k n (i + 1) := (spre_succ k n i).symm
      rw [e, asq_pos (by rw [spre_length]; omega), ofNat_succ]
      exact streamOwn_loop k n v hv m f (i + 1) (by omega) (by omega) (by omega)
    · rw [if_neg (by simp only [spre_length, decide_eq_true_eq]; omega), sealStreamOwnJ1, asq_pos (by rw [spre_length]; omega), asq_pos (by rw [spre_length]; omega)]
      rw [Int.toNat_natCast, Nat.sub_zero, sall_take k n (v := v) (by omega) hi]
theorem streamOwn_eq (k n : BitVec 64) (z : Int) : sealStreamOwn k n z = some ((sall k n).take (clip z)) := by
  rw [sealStreamOwn, lett_def, clip_prog]
  exact streamOwn_loop k n (clip z) (clip_le z) 128 FUEL 0 (by have := clip_le z; omega) (by omega) (by simp only [FUEL]; omega)
theorem refStream_loop (k n : BitVec 64) (v : Nat) (hv : v ≤ 1024) : ∀ (m f i : Nat), v ≤ 8 * (i + m) → i ≤ 128 → m < f → passkeyref3StreamL2 k n v f (spre k n i) (i : Int) = some ((sall k n).take v)
  | m, f, i, hm, hi, hf => by
    obtain ⟨f, rfl⟩ : ∃ g, f = g + 1 := ⟨f - 1, by omega⟩
    rw [passkeyref3StreamL2]
    by_cases h : 8 * i < v
    · obtain ⟨m, rfl⟩ : ∃ g, m = g + 1 := ⟨m - 1, by omega⟩
      have e0 : BitVec.ofInt 64 (i : Int) = BitVec.ofNat 64 i := by simp
      rw [if_pos (by simp only [spre_length, decide_eq_true_eq]; omega), e0, ref_words_n _ (Nat.le_of_ble_eq_true rfl), Option.bind_some, ref_mac_eq _ _ _ (smac_in _ _), Option.bind_some, ref_words_n _ (Nat.le_of_ble_eq_true rfl), Option.bind_some]
      have e : spre k n i ++ wordsBytes [smac k 5 (wordsBytes [n, BitVec.ofNat 64 i])] = spre k n (i + 1) := (spre_succ k n i).symm
      rw [e, asq_pos (by rw [spre_length]; omega), w64_of (by omega) (by omega)]
      exact refStream_loop k n v hv m f (i + 1) (by omega) (by omega) (by omega)
    · rw [if_neg (by simp only [spre_length, decide_eq_true_eq]; omega), passkeyref3StreamJ1, asq_pos (by rw [spre_length]; omega)]
      rw [List.drop_zero, Int.toNat_natCast, Nat.sub_zero, sall_take k n (v := v) (by omega) hi]
theorem clip_ref (z : Int) : (if (1024 : Int) < (if (0 : Int) > z then (0 : Int) else z) then (1024 : Int) else (if (0 : Int) > z then (0 : Int) else z)) = (clip z : Int) := by
  unfold clip; split <;> split <;> (try split) <;> omega
theorem refStream_eq (k n : BitVec 64) (z : Int) : passkeyref3Stream k n z = some ((sall k n).take (clip z)) := by
  rw [passkeyref3Stream, lett_def, clip_ref]
  exact refStream_loop k n (clip z) (clip_le z) 128 FUEL 0 (by have := clip_le z; omega) (by omega) (by simp only [FUEL]; omega)
/-! ### texts with the stream -/
def smix (k n : BitVec 64) (b : List (BitVec 8)) : List (BitVec 8) := List.zipWith (· ^^^ ·) b (sall k n)
theorem smix_length (k n : BitVec 64) (b : List (BitVec 8)) (h : b.length ≤ 1024) : (smix k n b).length = b.length := by
  rw [smix, List.length_zipWith, sall_length]; omega
theorem smix_smix (k n : BitVec 64) (b : List (BitVec 8)) (h : b.length ≤ 1024) : smix k n (smix k n b) = b := by
  apply List.ext_getElem
  · rw [smix_length _ _ _ (by rw [smix_length _ _ _ h]; exact h), smix_length _ _ _ h]
  · intro i h1 h2
    simp only [smix, List.getElem_zipWith]
    rw [BitVec.xor_assoc, BitVec.xor_self, BitVec.xor_zero]
theorem mixed_loop (k n : BitVec 64) (b : List (BitVec 8)) (hb : b.length ≤ 1024) (y : List (BitVec 8)) (hy : y.length = b.length) : ∀ (m f i : Nat), i + m = b.length → m < f → sealmixedL2 b y f ((smix k n b).take i ++ ((sall k n).take b.length).drop i) (i : Int) = some (smix k n b)
  | m, f, i, hm, hf => by
    obtain ⟨f, rfl⟩ : ∃ g, f = g + 1 := ⟨f - 1, by omega⟩
    have hl : ((sall k n).take b.length).length = b.length := by rw [List.length_take, sall_length]; omega
    have hs := smix_length k n b hb
    have hlen : ((smix k n b).take i ++ ((sall k n).take b.length).drop i).length = b.length := by
      rw [List.length_append, List.length_take, List.length_drop, hl, hs]; omega
    rw [sealmixedL2]
    cases m with
    | zero =>
      rw [if_neg (by rw [hy, decide_eq_true_eq]; omega), sealmixedJ1, List.take_of_length_le (by omega), List.drop_of_length_le (by omega), List.append_nil]
    | succ m =>
      rw [if_pos (by rw [hy, decide_eq_true_eq]; omega), asq_pos (by rw [hlen]; omega), asq_pos (by omega), lett_def, asq_pos (by rw [hlen]; omega), w64_of (by omega) (by omega), Int.toNat_natCast, Nat.zero_add]
      have e1 : ((smix k n b).take i ++ ((sall k n).take b.length).drop i).getD i 0#8 = (sall k n)[i]'(by rw [sall_length]; omega) := by
        rw [List.getD_eq_getElem?_getD, List.getElem?_append_right (by rw [List.length_take]; omega), List.length_take, hs, Nat.min_eq_left (by omega), Nat.sub_self, List.getElem?_drop, List.getElem?_take, if_pos (by omega), Nat.add_zero, List.getElem?_eq_getElem (by rw [sall_length]; omega)]; rfl
      have e2 : b.getD i 0#8 = b[i]'(by omega) := by rw [List.getD_eq_getElem?_getD, List.getElem?_eq_getElem (by omega)]; rfl
      have e3 : ((smix k n b).take i ++ ((sall k n).take b.length).drop i).set i ((sall k n)[i]'(by rw [sall_length]; omega) ^^^ b[i]'(by omega)) = (smix k n b).take (i + 1) ++ ((sall k n).take b.length).drop (i + 1) := by
        rw [List.set_append_right _ _ (by rw [List.length_take]; omega), List.length_take, hs, Nat.min_eq_left (by omega), Nat.sub_self, List.drop_eq_getElem_cons (i := i) (by rw [hl]; omega), List.set_cons_zero, List.take_succ_eq_append_getElem (i := i) (by omega), List.append_assoc]
        congr 1
        simp only [List.cons_append, List.nil_append, smix, List.getElem_zipWith]
        rw [BitVec.xor_comm]
      rw [e1, e2, e3]
      exact mixed_loop k n b hb y hy m f (i + 1) (by omega) (by omega)
theorem mixed_eq (k n : BitVec 64) (b : List (BitVec 8)) (hb : b.length ≤ 1024) : sealmixed k n b = some (smix k n b) := by
  rw [sealmixed, streamOwn_eq, clip_nat _ hb, Option.bind_some]
  have := mixed_loop k n b hb ((sall k n).take b.length) (by rw [List.length_take, sall_length]; omega) b.length FUEL 0 (by omega) (by simp only [FUEL]; omega)
  simpa using this
theorem mix_loop (k n : BitVec 64) (b : List (BitVec 8)) (hb : b.length ≤ 1024) : ∀ (m f i : Nat), i + m = b.length → m < f → passkeyref3mixL2 b ((sall k n).take b.length) f ((smix k n b).take i) (i : Int) = some (smix k n b)
  | m, f, i, hm, hf => by
    obtain ⟨f, rfl⟩ : ∃ g, f = g + 1 := ⟨f - 1, by omega⟩
    have hl : ((sall k n).take b.length).length = b.length := by rw [List.length_take, sall_length]; omega
    have hs := smix_length k n b hb
    rw [passkeyref3mixL2]
    cases m with
    | zero => rw [if_neg (by rw [decide_eq_true_eq]; omega), passkeyref3mixJ1, List.take_of_length_le (by omega)]
    | succ m =>
      have e1 : ((sall k n).take b.length).getD i 0#8 = (sall k n)[i]'(by rw [sall_length]; omega) := by
        rw [List.getD_eq_getElem?_getD, List.getElem?_take, if_pos (by omega), List.getElem?_eq_getElem (by rw [sall_length]; omega)]; rfl
      have e2 : b.getD i 0#8 = b[i]'(by omega) := by rw [List.getD_eq_getElem?_getD, List.getElem?_eq_getElem (by omega)]; rfl
      have e3 : (smix k n b).take i ++ [b[i]'(by omega) ^^^ (sall k n)[i]'(by rw [sall_length]; omega)] = (smix k n b).take (i + 1) := by
        rw [List.take_succ_eq_append_getElem (i := i) (by omega)]
        simp only [smix, List.getElem_zipWith]
      rw [if_pos (by rw [decide_eq_true_eq]; omega), asq_pos (by omega), asq_pos (by rw [hl]; omega), Int.toNat_natCast, e1, e2, e3, asq_pos (by rw [List.length_take]; omega), w64_of (by omega) (by omega)]
      exact mix_loop k n b hb m f (i + 1) (by omega) (by omega)
theorem mix_eq (k n : BitVec 64) (b : List (BitVec 8)) (hb : b.length ≤ 1024) : passkeyref3mix k n b = some (smix k n b) := by
  rw [passkeyref3mix, refStream_eq, clip_nat _ hb, Option.bind_some]
  have := mix_loop k n b hb b.length FUEL 0 (by omega) (by simp only [FUEL]; omega)
  simpa using this
/-! ### tags -/
def stag (k n : BitVec 64) (bound enc : List (BitVec 8)) : BitVec 64 := smac k 6 ((wordsBytes [n, BitVec.ofInt 64 (bound.length : Int)] ++ bound) ++ enc)
theorem tag_in {n m : BitVec 64} {bound enc : List (BitVec 8)} (h1 : bound.length ≤ 140737488351000) (h2 : bound.length + enc.length ≤ 140737488351000) : ((wordsBytes [n, m] ++ bound) ++ enc).length ≤ 140737488351232 ∧ (wordsBytes [n, m] ++ bound).length ≤ 140737488351232 := by
  have := words_short [n, m] (Nat.le_of_ble_eq_true rfl)
  simp only [List.length_append]; omega
theorem tag_eq (k n : BitVec 64) (bound enc : List (BitVec 8)) (h1 : bound.length ≤ 140737488351000) (h2 : bound.length + enc.length ≤ 140737488351000) : sealtag k n bound enc = some (wordBytes (stag k n bound enc)) := by
  obtain ⟨g1, g2⟩ := tag_in (n := n) (m := BitVec.ofInt 64 (bound.length : Int)) h1 h2
  have hw := wordBytes_length (stag k n bound enc)
  rw [sealtag, words_n _ (Nat.le_of_ble_eq_true rfl), Option.bind_some, asq_pos (by omega), asq_pos (by omega), mac_eq _ _ _ g1, Option.bind_some, words_n _ (Nat.le_of_ble_eq_true rfl), Option.bind_some, words1]
  have e : ((wordBytes (smac k 6 ((wordsBytes [n, BitVec.ofInt 64 (bound.length : Int)] ++ bound) ++ enc))).drop 0).take (wordBytes (smac k 6 ((wordsBytes [n, BitVec.ofInt 64 (bound.length : Int)] ++ bound) ++ enc))).length = wordBytes (stag k n bound enc) := by
    rw [List.drop_zero, List.take_of_length_le (Nat.le_refl _)]; rfl
  rw [e, asq_pos (by omega), List.take_of_length_le (by omega), asq_pos (by omega), asq_pos (by rw [List.length_replicate]; omega), asq_pos (by omega)]
theorem refTag_eq (k n : BitVec 64) (bound enc : List (BitVec 8)) (h1 : bound.length ≤ 140737488351000) (h2 : bound.length + enc.length ≤ 140737488351000) : passkeyref3tag k n bound enc = some (stag k n bound enc) := by
  obtain ⟨g1, g2⟩ := tag_in (n := n) (m := BitVec.ofInt 64 (bound.length : Int)) h1 h2
  rw [passkeyref3tag, ref_words_n _ (Nat.le_of_ble_eq_true rfl), Option.bind_some, asq_pos (by omega), asq_pos (by omega), ref_mac_eq _ _ _ g1, Option.bind_some]; rfl
/-! ### boxes -/
def sbox (k n : BitVec 64) (bound text : List (BitVec 8)) : List (BitVec 8) := (wordBytes n ++ smix k n text) ++ wordBytes (stag k n bound (smix k n text))
def sealS (k n : BitVec 64) (bound text : List (BitVec 8)) : List (BitVec 8) × Int := if 1024 < text.length ∨ 1024 < bound.length then ([], 8) else (sbox k n bound text, 0)
theorem sbox_length (k n : BitVec 64) (bound text : List (BitVec 8)) (h : text.length ≤ 1024) : (sbox k n bound text).length = text.length + 16 := by
  simp only [sbox, List.length_append, wordBytes_length, smix_length _ _ _ h]; omega
theorem seal_in (k n : BitVec 64) (bound text : List (BitVec 8)) (h1 : text.length ≤ 1024) (h2 : bound.length ≤ 1024) : sealSealJ1 k n bound text false = some (sbox k n bound text, 0) := by
  have hm := smix_length k n text h1
  rw [sealSealJ1, if_neg (by simp), mixed_eq _ _ _ h1, Option.bind_some, tag_eq _ _ _ _ (by omega) (by omega), Option.bind_some, asq_pos (by rw [wordBytes_length, List.length_replicate]; omega), words_n _ (Nat.le_of_ble_eq_true rfl), Option.bind_some, words1,
    asq_pos (by rw [List.length_append, wordBytes_length]; omega), asq_pos (by rw [wordBytes_length]), asq_pos (by simp only [List.length_append, wordBytes_length]; omega)]
  rfl
theorem seal_eq (k n : BitVec 64) (bound text : List (BitVec 8)) : sealSeal k n bound text = some (sealS k n bound text) := by
  rw [sealSeal, sealS]
  by_cases h1 : 1024 < text.length
  · rw [if_pos (by rw [decide_eq_true_eq]; omega), if_pos (Or.inl h1)]; rfl
  · rw [if_neg (by rw [decide_eq_true_eq]; omega)]
    by_cases h2 : 1024 < bound.length
    · rw [decide_eq_true (by omega), if_pos (Or.inr h2)]; rfl
    · rw [decide_eq_false (by omega), if_neg (by omega), seal_in _ _ _ _ (by omega) (by omega)]
theorem refSeal_in (k n : BitVec 64) (bound text : List (BitVec 8)) (h1 : text.length ≤ 1024) (h2 : bound.length ≤ 1024) : passkeyref3SealJ1 k n bound text false = some (sbox k n bound text, 0) := by
  have hm := smix_length k n text h1
  rw [passkeyref3SealJ1, if_neg (by simp), mix_eq _ _ _ h1, Option.bind_some, ref_words_n _ (Nat.le_of_ble_eq_true rfl), Option.bind_some, words1, asq_pos (by rw [List.length_append, wordBytes_length]; omega), refTag_eq _ _ _ _ (by omega) (by omega), Option.bind_some,
    ref_words_n _ (Nat.le_of_ble_eq_true rfl), Option.bind_some, words1, asq_pos (by simp only [List.length_append, wordBytes_length]; omega)]
  rfl
theorem refSeal_eq (k n : BitVec 64) (bound text : List (BitVec 8)) : passkeyref3Seal k n bound text = some (sealS k n bound text) := by
  rw [passkeyref3Seal, sealS]
  by_cases h1 : 1024 < text.length
  · rw [if_pos (by rw [decide_eq_true_eq]; omega), if_pos (Or.inl h1)]; rfl
  · rw [if_neg (by rw [decide_eq_true_eq]; omega)]
    by_cases h2 : 1024 < bound.length
    · rw [decide_eq_true (by omega), if_pos (Or.inr h2)]; rfl
    · rw [decide_eq_false (by omega), if_neg (by omega), refSeal_in _ _ _ _ (by omega) (by omega)]
end Go.Proofs.Ty
