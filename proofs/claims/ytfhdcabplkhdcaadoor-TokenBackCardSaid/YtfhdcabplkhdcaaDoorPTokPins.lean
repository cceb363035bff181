/- The PIN protocol's PINs: laws TokenPins, TokenBack. -/
import Derived.Test.YtfhdcabplkhdcaaDoorPTokW
set_option linter.unusedSimpArgs false
set_option linter.unusedVariables false
namespace Go.Proofs.Ty
open Go Go.RW
def allz (l : List (BitVec 8)) : Bool := l.all fun x => x == 0#8
def fz : List (BitVec 8) → Nat
  | [] => 0
  | x :: xs => if x == 0#8 then 0 else fz xs + 1
theorem fz_le : ∀ l, fz l ≤ l.length
  | [] => Nat.le_refl _
  | x :: xs => by rw [fz]; have := fz_le xs; split <;> simp <;> omega
theorem idxB_fz : ∀ l, idxB l 0#8 = if fz l = l.length then -1 else (fz l : Int)
  | [] => rfl
  | x :: xs => by
    rw [idxB, fz, idxB_fz xs]
    by_cases c : x = 0#8
    · rw [c]; simp
    · have hc : (x == 0#8) = false := beq_eq_false_iff_ne.2 c
      rw [hc]
      simp only [Bool.false_eq_true, if_false, List.length_cons, Nat.add_right_cancel_iff]
      by_cases d : fz xs = xs.length
      · rw [if_pos d, if_pos d]; rfl
      · rw [if_neg d, if_neg d, if_neg (by simp)]; omega
theorem fz_lt : ∀ l, ∀ i, i < fz l → l.getD i 0#8 ≠ 0#8
  | [], i, h => by simp [fz] at h
  | x :: xs, i, h => by
    rw [fz] at h
    split at h
    · omega
    · rename_i c
      cases i with
      | zero => simpa using c
      | succ i => exact fz_lt xs i (by omega)
theorem fz_at : ∀ l, fz l < l.length → l.getD (fz l) 0#8 = 0#8
  | [], h => by simp at h
  | x :: xs, h => by
    rw [fz]
    split
    · rename_i c; simpa using c
    · rename_i c
      rw [fz, if_neg c] at h
      exact fz_at xs (by simp at h; omega)
theorem trimR (k : Nat) : ∀ (m f : Nat) (x : List (BitVec 8)), x.length = m → m ≤ 1000 → m < f → ∃ y, stringstrimRightByteL2 0#8 f x = some y ∧ allz y = allz x ∧ y.length ≤ x.length
  | 0, f + 1, x, h, _, _ => by
    rw [stringstrimRightByteL2, if_neg (by rw [decide_eq_true_eq]; omega), stringstrimRightByteJ3, if_neg (by decide), stringstrimRightByteJ1]
    exact ⟨x, rfl, rfl, Nat.le_refl _⟩
  | m + 1, f + 1, x, h, hm, hf => by
    have hw : w64 ((x.length : Int) - 1) = (m : Int) := by rw [w64_of (by omega) (by omega)]; omega
    rw [stringstrimRightByteL2, if_pos (by rw [decide_eq_true_eq]; omega), hw, asq_pos (by omega), Int.toNat_natCast, stringstrimRightByteJ3]
    by_cases c : x.getD m 0#8 = 0#8
    · rw [if_pos (by simpa using c), hw, asq_pos (by omega), Int.toNat_natCast, dropTake_zero]
      obtain ⟨y, h1, h2, h3⟩ := trimR k m f (x.take m) (by simp; omega) (by omega) (by omega)
      refine ⟨y, h1, ?_, by simp at h3; omega⟩
      rw [h2]
      have e : x = x.take m ++ [0#8] := by
        conv => lhs; rw [← List.take_append_drop m x]
        congr 1
        rw [List.drop_eq_getElem_cons (by omega), List.drop_eq_nil_of_le (by omega)]
        rw [List.getD_eq_getElem?_getD, List.getElem?_eq_getElem (by omega)] at c
        simpa using c
      conv => rhs; rw [e]
      simp [allz]
    · rw [if_neg (by simpa using c), stringstrimRightByteJ1]
      exact ⟨x, rfl, rfl, Nat.le_refl _⟩
theorem trimL : ∀ (m f : Nat) (x : List (BitVec 8)), x.length = m → m < f → ∃ y, stringstrimLeftByteL2 0#8 f x = some y ∧ (y == []) = allz x
  | 0, f + 1, x, h, _ => by
    obtain rfl := List.length_eq_zero_iff.1 h
    exact ⟨[], rfl, rfl⟩
  | m + 1, f + 1, [], h, _ => by simp at h
  | m + 1, f + 1, x :: xs, h, hf => by
    rw [stringstrimLeftByteL2, if_pos (by rw [decide_eq_true_eq, List.length_cons]; omega), asq_pos (by rw [List.length_cons]; omega), stringstrimLeftByteJ3]
    by_cases c : x = 0#8
    · rw [if_pos (by simpa using c), asq_pos (by rw [List.length_cons]; omega), dropTake_end]
      obtain ⟨y, h1, h2⟩ := trimL m f xs (by simp at h; omega) (by omega)
      refine ⟨y, h1, ?_⟩
      rw [h2, c]; simp [allz]
    · rw [if_neg (by simpa using c), stringstrimLeftByteJ1]
      refine ⟨x :: xs, rfl, ?_⟩
      simp [allz, c]
theorem trim_eq (x : List (BitVec 8)) (h : x.length ≤ 1000) : ∃ y, stringsTrim x [0#8] = some y ∧ (y == []) = allz x := by
  rw [stringsTrim]
  by_cases c : (x == []) = true
  · rw [if_pos c, stringsTrimJ1, if_pos rfl]
    have : x = [] := by simpa using c
    rw [this]; exact ⟨[], rfl, rfl⟩
  · rw [if_neg c, stringsTrimJ1, if_neg (by decide), if_pos (by decide), asq_pos (by decide), stringsTrimJ2, if_pos (by decide), asq_pos (by decide)]
    obtain ⟨y, h1, h2, h3⟩ := trimR 0 x.length FUEL x rfl h (by simp only [FUEL]; omega)
    obtain ⟨z, h4, h5⟩ := trimL y.length FUEL y rfl (by simp only [FUEL]; omega)
    refine ⟨z, ?_, by rw [h5, h2]⟩
    rw [stringstrimRightByte, show ([0#8] : List (BitVec 8)).getD (0 : Int).toNat 0#8 = 0#8 from rfl, h1, Option.bind_some, asq_pos (by decide), stringstrimLeftByte, h4]; rfl
def openPinB (b : List (BitVec 8)) : List (BitVec 8) × Int :=
  if b.length = 64 ∧ fz b < 64 ∧ allz (b.drop (fz b)) = true then (b.take (fz b), 0) else ([], 2)
def openPinS (k : BitVec 64) (box : List (BitVec 8)) : List (BitVec 8) × Int :=
  if (openS k [] box).2 ≠ 0 then ([], (openS k [] box).2) else openPinB (openS k [] box).1
theorem openB_prog (b : List (BitVec 8)) (e : Int) (hb : b.length ≤ 1040) : ((stringsIndexByte b (0#8)).bind fun y17 => (if ((b.length : Int) != (64 : Int)) then tokenOpenPinJ1 (b, e) y17 true else (if (decide (y17 < (0 : Int))) then tokenOpenPinJ1 (b, e) y17 true else (asq (0 ≤ y17 ∧ y17 ≤ (b.length : Int)) ((stringsTrim (dropTake y17.toNat b.length b) ([0#8] : List (BitVec 8))).bind fun y32 => tokenOpenPinJ1 (b, e) y17 (!(y32 == ([] : List (BitVec 8))))))))) = some (openPinB b) := by
  rw [stringsIndexByte, stringsliteIndexByte, bytealgIndexByteString, Option.bind_some, Option.bind_some, Option.bind_some, idxB_fz]
  have hl := fz_le b
  by_cases c : b.length = 64
  · rw [if_neg (by rw [c]; decide)]
    by_cases d : fz b = b.length
    · have e0 : openPinB b = ([], 2) := by rw [openPinB, if_neg (by omega)]
      rw [if_pos d, if_pos (by decide), tokenOpenPinJ1, if_pos rfl, e0]
    · rw [if_neg d, if_neg (by rw [decide_eq_true_eq]; omega), asq_pos (by omega), Int.toNat_natCast, dropTake_end]
      obtain ⟨y, h1, h2⟩ := trim_eq (b.drop (fz b)) (by simp; omega)
      rw [h1, Option.bind_some, h2, tokenOpenPinJ1]
      by_cases z : allz (b.drop (fz b)) = true
      · have e0 : openPinB b = (b.take (fz b), 0) := by rw [openPinB, if_pos ⟨c, by omega, z⟩]
        rw [if_neg (by rw [z]; decide), asq_pos (by show 0 ≤ (fz b : Int) ∧ (fz b : Int) ≤ (b.length : Int); omega), Int.toNat_natCast, dropTake_zero, e0]
      · have e0 : openPinB b = ([], 2) := by rw [openPinB, if_neg (fun h => z h.2.2)]
        rw [if_pos (by simpa using z), e0]
  · have e0 : openPinB b = ([], 2) := by rw [openPinB, if_neg (fun h => c h.1)]
    rw [if_pos (by rw [bne_iff_ne]; omega), tokenOpenPinJ1, if_pos rfl, e0]
theorem openPin_eq (k : BitVec 64) (box : List (BitVec 8)) (hs : (openS k [] box).1.length ≤ 1040) : tokenOpenPin k box = some (openPinS k box) := by
  rw [tokenOpenPin, open_eq, Option.bind_some]
  by_cases c : (openS k [] box).2 = 0
  · have e : openPinS k box = openPinB (openS k [] box).1 := by rw [openPinS, if_neg (show ¬ ((openS k [] box).2 ≠ 0) by simpa using c)]
    rw [if_neg (show ¬ (((openS k [] box).2 != 0) = true) by simp [c]), e]
    exact openB_prog (openS k [] box).1 (openS k [] box).2 hs
  · have e : openPinS k box = ([], (openS k [] box).2) := by rw [openPinS, if_pos c]
    rw [if_pos (show ((openS k [] box).2 != 0) = true by rw [bne_iff_ne]; exact c), e]
theorem allz_drop {b : List (BitVec 8)} {i : Nat} (h : i < b.length) : allz (b.drop i) = ((b.getD i 0#8 == 0#8) && allz (b.drop (i + 1))) := by
  rw [allz, List.drop_eq_getElem_cons h, List.all_cons, List.getD_eq_getElem?_getD, List.getElem?_eq_getElem h]; rfl
theorem refL4 (b : List (BitVec 8)) (e : Int) (v : Nat) (hv : v ≤ b.length) (hb : b.length ≤ 1040) : ∀ (m f i : Nat), i + m = b.length → m < f → passkeyref10OpenPinL4 (b, e) v f i = some (if allz (b.drop i) = true then (b.take v, 0) else ([], 2))
  | 0, f + 1, i, h, _ => by
    rw [passkeyref10OpenPinL4, if_neg (by rw [decide_eq_true_eq]; show ¬ ((i : Int) < (b.length : Int)); omega), passkeyref10OpenPinJ3, asq_pos (by show 0 ≤ (v : Int) ∧ (v : Int) ≤ (b.length : Int); omega), if_pos (show allz (b.drop i) = true by rw [List.drop_eq_nil_of_le (by omega)]; rfl)]
    simp
  | m + 1, f + 1, i, h, hf => by
    have e2 : w64 ((i : Int) + 1) = ((i + 1 : Nat) : Int) := by rw [w64_of (by omega) (by omega)]; omega
    rw [passkeyref10OpenPinL4, if_pos (by rw [decide_eq_true_eq]; show (i : Int) < (b.length : Int); omega), asq_pos (by show 0 ≤ (i : Int) ∧ (i : Int) < (b.length : Int); omega), e2, refL4 b e v hv hb m f (i + 1) (by omega) (by omega), allz_drop (show i < b.length by omega)]
    simp only [Nat.zero_add, Int.toNat_natCast]
    by_cases c : b.getD i 0#8 = 0#8
    · rw [if_neg (by rw [c]; decide), c]; simp
    · rw [if_pos (by simpa using c), beq_eq_false_iff_ne.2 c]; simp
theorem refJ1 (b : List (BitVec 8)) (e : Int) (hb : b.length ≤ 1040) : passkeyref10OpenPinJ1 (b, e) (fz b) = some (openPinB b) := by
  have hl := fz_le b
  rw [passkeyref10OpenPinJ1]
  by_cases c : b.length = 64
  · rw [if_neg (by simp only; rw [c]; decide), passkeyref10OpenPinJ2]
    by_cases d : fz b = b.length
    · have e0 : openPinB b = ([], 2) := by rw [openPinB, if_neg (by omega)]
      rw [if_pos (by simp only; rw [d]; exact beq_self_eq_true _), e0]
    · rw [if_neg (by simp only [beq_iff_eq]; omega), refL4 b e (fz b) hl hb (b.length - fz b) FUEL (fz b) (by omega) (by simp only [FUEL]; omega)]
      by_cases z : allz (b.drop (fz b)) = true
      · rw [if_pos z, openPinB, if_pos ⟨c, by omega, z⟩]
      · rw [if_neg z, openPinB, if_neg (fun h => z h.2.2)]
  · have e0 : openPinB b = ([], 2) := by rw [openPinB, if_neg (fun h => c h.1)]
    rw [if_pos (by simp only; rw [bne_iff_ne]; omega), passkeyref10OpenPinJ2, if_pos rfl, e0]
theorem refL5 (b : List (BitVec 8)) (e : Int) (hb : b.length ≤ 1040) : ∀ (m f i : Nat), i + m = fz b → m < f → passkeyref10OpenPinL5 (b, e) f i = some (openPinB b)
  | 0, f + 1, i, h, _ => by
    have hl := fz_le b
    obtain rfl : i = fz b := by omega
    rw [passkeyref10OpenPinL5]
    by_cases d : fz b = b.length
    · rw [if_neg (by rw [decide_eq_true_eq]; show ¬ ((fz b : Int) < (b.length : Int)); omega), passkeyref10OpenPinJ6, if_neg (by decide), refJ1 b e hb]
    · have hz := fz_at b (by omega)
      rw [if_pos (by rw [decide_eq_true_eq]; show (fz b : Int) < (b.length : Int); omega), asq_pos (by show 0 ≤ (fz b : Int) ∧ (fz b : Int) < (b.length : Int); omega)]
      simp only [Nat.zero_add, Int.toNat_natCast]
      rw [hz, passkeyref10OpenPinJ6, if_neg (by decide), refJ1 b e hb]
  | m + 1, f + 1, i, h, hf => by
    have hl := fz_le b
    have e2 : w64 ((i : Int) + 1) = ((i + 1 : Nat) : Int) := by rw [w64_of (by omega) (by omega)]; omega
    have hz := fz_lt b i (by omega)
    rw [passkeyref10OpenPinL5, if_pos (by rw [decide_eq_true_eq]; show (i : Int) < (b.length : Int); omega), asq_pos (by show 0 ≤ (i : Int) ∧ (i : Int) < (b.length : Int); omega)]
    simp only [Nat.zero_add, Int.toNat_natCast]
    rw [passkeyref10OpenPinJ6, if_pos (by simpa using hz), e2, refL5 b e hb m f (i + 1) (by omega) (by omega)]
theorem refOpenPin_eq (k : BitVec 64) (box : List (BitVec 8)) (hs : (openS k [] box).1.length ≤ 1040) : passkeyref10OpenPin k box = some (openPinS k box) := by
  rw [passkeyref10OpenPin, refOpen_eq, Option.bind_some]
  by_cases c : (openS k [] box).2 = 0
  · have e : openPinS k box = openPinB (openS k [] box).1 := by rw [openPinS, if_neg (show ¬ ((openS k [] box).2 ≠ 0) by simpa using c)]
    have hl := fz_le (openS k [] box).1
    rw [if_neg (show ¬ (((openS k [] box).2 != 0) = true) by simp [c]), e]
    exact refL5 (openS k [] box).1 (openS k [] box).2 hs (fz (openS k [] box).1) FUEL 0 (by omega) (by simp only [FUEL]; omega)
  · have e : openPinS k box = ([], (openS k [] box).2) := by rw [openPinS, if_pos c]
    rw [if_pos (show ((openS k [] box).2 != 0) = true by rw [bne_iff_ne]; exact c), e]
theorem openS_short (k : BitVec 64) (box : List (BitVec 8)) : (openS k [] box).1.length ≤ 1040 := by
  rw [openS]
  split
  · simp
  split
  · simp
  split
  · simp only; rw [smix_length _ _ _ (by rw [List.length_take, List.length_drop]; omega), List.length_take, List.length_drop]; omega
  · simp
theorem law_pins (k : BitVec 64) (box : List (BitVec 8)) : passkeylaw12pins k box = some true := by
  rw [passkeylaw12pins, openPin_eq k box (openS_short k box), Option.bind_some, refOpenPin_eq k box (openS_short k box), Option.bind_some, if_pos (beq_self_eq_true _), beq_self_eq_true]
def padS (s : List (BitVec 8)) : List (BitVec 8) := putL (List.replicate (64 : Int).toNat 0#8) 0 (s.take (min s.length (List.replicate (64 : Int).toNat 0#8).length))
theorem padS_length (s : List (BitVec 8)) : (padS s).length = 64 := by rw [padS, putLn, List.length_replicate]; rfl
def sealPinS (k n : BitVec 64) (s : List (BitVec 8)) : List (BitVec 8) × Int := if 63 < s.length then ([], 8) else (sbox k n [] (padS s), 0)
theorem seal_pad (k n : BitVec 64) (s : List (BitVec 8)) : sealS k n [] (padS s) = (sbox k n [] (padS s), 0) := by rw [sealS, if_neg (by rw [padS_length]; simp)]
theorem sealPin_eq (k n : BitVec 64) (s : List (BitVec 8)) : tokenSealPin k n s = some (sealPinS k n s) := by
  rw [tokenSealPin, sealPinS]
  by_cases c : 63 < s.length
  · rw [if_pos (by rw [decide_eq_true_eq]; omega), if_pos c]
  · rw [if_neg (by rw [decide_eq_true_eq]; omega), if_neg c, asq_pos (by omega)]
    show (sealSeal k n [] (padS s)).bind _ = _
    rw [seal_eq, seal_pad]; rfl
theorem refSealPin_eq (k n : BitVec 64) (s : List (BitVec 8)) : passkeyref10SealPin k n s = some (sealPinS k n s) := by
  rw [passkeyref10SealPin, sealPinS]
  by_cases c : 63 < s.length
  · rw [if_pos (by rw [decide_eq_true_eq]; omega), if_pos c]
  · rw [if_neg (by rw [decide_eq_true_eq]; omega), if_neg c, asq_pos (by omega)]
    show (passkeyref3Seal k n [] (padS s)).bind _ = _
    rw [refSeal_eq, seal_pad]; rfl
theorem pins_J3 (k n : BitVec 64) (box : List (BitVec 8)) (y : List (BitVec 8) × Int) (v : List (BitVec 8)) : passkeylaw12TokenPinsJ3 k n box y y v = some true := by
  rw [passkeylaw12TokenPinsJ3, refSeal_eq, Option.bind_some, if_pos (beq_self_eq_true _), if_pos (beq_self_eq_true _), law_pins, Option.bind_some, if_pos rfl, law_pins, Option.bind_some, if_pos rfl, law_pins, Option.bind_some, if_pos rfl, law_pins, Option.bind_some, if_pos rfl, awake_eq]; rfl
theorem pins_J2 (k n : BitVec 64) (box : List (BitVec 8)) (a4 : Int) (y : List (BitVec 8) × Int) (v : List (BitVec 8)) (hv : 63 ≤ v.length) (hv2 : v.length ≤ 66) : passkeylaw12TokenPinsJ2 k n box a4 y y v = some true := by
  rw [passkeylaw12TokenPinsJ2]
  split
  · have hr := iand_range (ishr .i64 a4 10) 63 (by omega) (by omega)
    have hm := tmod_range (ibits .and .i64 (ishr .i64 a4 10) 63) (v.length : Int) hr.1 (by omega)
    rw [asq_pos (by omega), lett_def, asq_pos hm]
    exact pins_J3 ..
  · exact pins_J3 ..
theorem pins_L4 (k n : BitVec 64) (box : List (BitVec 8)) (a4 : Int) (y : List (BitVec 8) × Int) (N : Nat) (hN : ibits .and .i64 (ishr .i64 a4 2) 63 = (N : Int)) (hN2 : N ≤ 63) : ∀ (m f i : Nat) (v : List (BitVec 8)), i + m = N → m < f → 63 ≤ v.length → v.length ≤ 66 → passkeylaw12TokenPinsL4 k n box a4 y y f v i = some true
  | 0, f + 1, i, v, h, _, h1, h2 => by
    rw [passkeylaw12TokenPinsL4, hN, if_neg (by rw [decide_eq_true_eq]; omega)]
    exact pins_J2 k n box a4 y v h1 h2
  | m + 1, f + 1, i, v, h, hf, h1, h2 => by
    have e2 : w64 ((i : Int) + 1) = ((i + 1 : Nat) : Int) := by rw [w64_of (by omega) (by omega)]; omega
    rw [passkeylaw12TokenPinsL4, hN, if_pos (by rw [decide_eq_true_eq]; omega), asq_pos (by omega), e2]
    exact pins_L4 k n box a4 y N hN hN2 m f (i + 1) _ (by omega) (by omega) (by rw [List.length_set]; exact h1) (by rw [List.length_set]; exact h2)
theorem tokenPins_holds (a0 a1 : BitVec 64) (a2 a3 : List (BitVec 8)) (a4 : Int) (h2 : a2.length ≤ 140737488351232) (h3 : a3.length ≤ 140737488351232) (h4 : -9223372036854775808 ≤ a4 ∧ a4 ≤ 9223372036854775807) : passkeylaw12TokenPins a0 a1 a2 a3 a4 = some true := by
  have key : ∀ b, passkeylaw12TokenPinsJ1 a0 a1 a2 a3 a4 b = some true := by
    intro b
    rw [passkeylaw12TokenPinsJ1]
    split
    · rw [awake_eq]; rfl
    obtain ⟨N, hN, hN2⟩ := iand_nat (ishr .i64 a4 2) 63 (by omega)
    have hr := iand_range a4 3 (by omega) (by omega)
    have hw : w64 (63 + ibits .and .i64 a4 3) = 63 + ibits .and .i64 a4 3 := w64_of (by omega) (by omega)
    rw [sealPin_eq, Option.bind_some, refSealPin_eq, Option.bind_some, hw, asq_pos (by omega)]
    exact pins_L4 a0 a1 a3 a4 _ N hN hN2 N FUEL 0 _ (by omega) (by simp only [FUEL]; omega) (by rw [List.length_replicate]; omega) (by rw [List.length_replicate]; omega)
  rw [passkeylaw12TokenPins]
  split <;> exact key _
theorem pad_eq (s : List (BitVec 8)) (h : s.length ≤ 63) : padS s = s ++ List.replicate (64 - s.length) 0#8 := by
  have e : (64 : Int).toNat = 64 := rfl
  rw [padS, List.length_replicate, e, Nat.min_eq_left (by omega), List.take_of_length_le (Nat.le_refl _), putL, List.take_zero, List.nil_append, List.drop_replicate, Nat.zero_add]
theorem fz_app : ∀ (s r : List (BitVec 8)), (∀ i, i < s.length → s.getD i 0#8 ≠ 0#8) → fz (s ++ 0#8 :: r) = s.length
  | [], r, _ => rfl
  | x :: s, r, h => by
    have h0 := h 0 (by rw [List.length_cons]; omega)
    rw [List.cons_append, fz, if_neg (by simpa using h0), fz_app s r (fun i hi => h (i + 1) (by rw [List.length_cons]; omega)), List.length_cons]
theorem open_pad (s : List (BitVec 8)) (h : s.length ≤ 63) (hz : ∀ i, i < s.length → s.getD i 0#8 ≠ 0#8) : openPinB (padS s) = (s, 0) := by
  have e : padS s = s ++ 0#8 :: List.replicate (63 - s.length) 0#8 := by rw [pad_eq s h, show 64 - s.length = (63 - s.length) + 1 by omega, List.replicate_succ]
  have hf : fz (padS s) = s.length := by rw [e]; exact fz_app s _ hz
  have hd : allz ((padS s).drop s.length) = true := by rw [e, List.drop_left]; simp [allz]
  rw [openPinB, hf, if_pos ⟨padS_length s, by omega, hd⟩, e, List.take_left]
theorem back_J1 (k n : BitVec 64) (s : List (BitVec 8)) (w : BitVec 64) (h : s.length ≤ 63) (hz : ∀ i, i < s.length → s.getD i 0#8 ≠ 0#8) : passkeylaw12TokenBackJ1 k n s w = some true := by
  have e1 : sealPinS k n s = (sbox k n [] (padS s), 0) := by rw [sealPinS, if_neg (by omega)]
  have o1 : openS k [] (sbox k n [] (padS s)) = (padS s, 0) := open_box k n [] (padS s) (by rw [padS_length]; omega) (by simp)
  have e2 : openPinS k (sbox k n [] (padS s)) = (s, 0) := by rw [openPinS, o1, if_neg (by simp), open_pad s h hz]
  have o2 : openS k [] (sbox k n [] (wordBytes w)) = (wordBytes w, 0) := open_box k n [] (wordBytes w) (by rw [wordBytes_length]; omega) (by simp)
  have e3 : openWordS k (sbox k n [] (wordBytes w)) = (w, 0) := by rw [openWordS, o2, if_neg (by simp), if_neg (by simp [wordBytes_length]), beW_wordBytes]
  rw [passkeylaw12TokenBackJ1, sealPin_eq, Option.bind_some, e1, openPin_eq _ _ (openS_short _ _), Option.bind_some, sealWord_eq, Option.bind_some, openWord_eq, Option.bind_some]
  simp only [e2, e3]
  rw [if_pos (by decide), if_pos (by decide), if_pos (by decide), if_pos (beq_self_eq_true s), if_pos (beq_self_eq_true w), awake_eq]; rfl
theorem back_L2 (k n : BitVec 64) (s : List (BitVec 8)) (w : BitVec 64) (hs : s.length ≤ 140737488351232) : ∀ (m f i : Nat), i + m = s.length → m < f → (i = 0 ∨ s.length ≤ 63) → (∀ j, j < i → s.getD j 0#8 ≠ 0#8) → passkeylaw12TokenBackL2 k n s w f i = some true
  | 0, f + 1, i, h, _, h0, hz => by
    rw [passkeylaw12TokenBackL2, if_neg (by rw [decide_eq_true_eq]; omega)]
    exact back_J1 k n s w (by omega) (fun j hj => hz j (by omega))
  | m + 1, f + 1, i, h, hf, h0, hz => by
    have e2 : w64 ((i : Int) + 1) = ((i + 1 : Nat) : Int) := by rw [w64_of (by omega) (by omega)]; omega
    rw [passkeylaw12TokenBackL2, if_pos (by rw [decide_eq_true_eq]; omega), asq_pos (by omega), Int.toNat_natCast]
    by_cases c : s.getD i 0#8 = 0#8
    · rw [if_pos (by simpa using c), passkeylaw12TokenBackJ3, if_pos rfl, awake_eq]; rfl
    · rw [if_neg (by simpa using c), passkeylaw12TokenBackJ3]
      by_cases d : 63 < s.length
      · rw [if_pos (by rw [decide_eq_true_eq]; omega), awake_eq]; rfl
      · rw [if_neg (by rw [decide_eq_true_eq]; omega), e2]
        refine back_L2 k n s w hs m f (i + 1) (by omega) (by omega) (Or.inr (by omega)) ?_
        intro j hj
        by_cases e : j = i
        · rw [e]; exact c
        · exact hz j (by omega)
theorem tokenBack_holds (a0 a1 : BitVec 64) (a2 : List (BitVec 8)) (a3 : BitVec 64) (h2 : a2.length ≤ 140737488351232) : passkeylaw12TokenBack a0 a1 a2 a3 = some true := by
  rw [passkeylaw12TokenBack]
  exact back_L2 a0 a1 a2 a3 h2 a2.length FUEL 0 (by omega) (by simp only [FUEL]; omega) (Or.inl rfl) (fun j hj => by omega)
end Go.Proofs.Ty
