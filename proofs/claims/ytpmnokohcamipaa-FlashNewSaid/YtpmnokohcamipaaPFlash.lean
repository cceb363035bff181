/- The plain side of the flash: the program and the reference are the same plain functions. -/
import Derived.Test.YtpmnokohcamipaaPMath
import Derived.KernelRfl
set_option linter.unusedSimpArgs false
set_option linter.unusedVariables false
namespace Go.Proofs.Ty
open Go Go.RW
/-- A flash whose bytes are no longer than what may come in. -/
abbrev FOk (f : TApiFlash) : Prop := f.Bytes.length ≤ 140737488351232
def validE (f : TApiFlash) : Int := if 512 ≤ f.PageSize ∧ f.PageSize ≤ 8192 then (if (f.Bytes.length : Int) % f.PageSize ≠ 0 ∨ (f.Bytes.length : Int) < f.PageSize ∨ 8 * f.PageSize < f.Bytes.length then 4 else 0) else 9
theorem sized_eq (n : Int) : flashsized n = some (decide (512 ≤ n ∧ n ≤ 8192)) := by
  rw [flashsized]
  by_cases h : (512 : Int) ≤ n
  · rw [if_pos (by simpa using h)]; simp [h]
  · rw [if_neg (by simpa using h)]; simp [h]
theorem validate_eq (f : TApiFlash) (hf : FOk f) : flashValidate f = some (validE f) := by
  rw [flashValidate, sized_eq, Option.bind_some]
  by_cases h : 512 ≤ f.PageSize ∧ f.PageSize ≤ 8192
  · rw [if_neg (by simp [h]), asq_pos (by omega), Int.tmod_eq_emod_of_nonneg (by omega)]
    simp only [validE, if_pos h]
    by_cases h1 : (f.Bytes.length : Int) % f.PageSize = 0
    · rw [if_neg (by simp [h1])]
      by_cases h2 : (f.Bytes.length : Int) < f.PageSize
      · rw [if_pos (by simpa using h2), flashValidateJ1, if_pos rfl, if_pos (by omega)]
      · rw [if_neg (by simpa using h2), flashValidateJ1, w64_of (by omega) (by omega)]
        by_cases h3 : 8 * f.PageSize < f.Bytes.length
        · rw [if_pos (by simpa using h3), if_pos (by omega)]
        · rw [if_neg (by simpa using h3), if_neg (by omega)]
    · rw [if_pos (by simpa using h1), flashValidateJ1, if_pos rfl, if_pos (by omega)]
  · rw [if_pos (by rw [decide_eq_false h]; rfl)]
    simp only [validE, if_neg h]
theorem div_le_iff (a b : Int) (hb : 0 < b) (ha : 0 ≤ a) : 8 < a / b ↔ 8 * b + b ≤ a := by
  constructor
  · intro h
    have : 9 ≤ a / b := by omega
    have := (Int.le_ediv_iff_mul_le hb).1 this
    omega
  · intro h
    have : 9 ≤ a / b := (Int.le_ediv_iff_mul_le hb).2 (by omega)
    omega
theorem ref_validate_eq (f : TApiFlash) (hf : FOk f) : passkeyref7ValidateFlash f = some (validE f) := by
  rw [passkeyref7ValidateFlash]
  by_cases h1 : f.PageSize < 512
  · rw [if_pos (by simpa using h1), passkeyref7ValidateFlashJ1, if_pos rfl, validE, if_neg (by omega)]
  · rw [if_neg (by simpa using h1), passkeyref7ValidateFlashJ1]
    by_cases h2 : 8192 < f.PageSize
    · rw [if_pos (by simpa using h2), validE, if_neg (by omega)]
    · have hvE : validE f = if (f.Bytes.length : Int) % f.PageSize ≠ 0 ∨ (f.Bytes.length : Int) < f.PageSize ∨ 8 * f.PageSize < f.Bytes.length then 4 else 0 := by rw [validE, if_pos ⟨by omega, by omega⟩]
      rw [if_neg (by simpa using h2), hvE]
      by_cases h3 : f.Bytes.length = 0
      · rw [if_pos (show (((f.Bytes.length : Int) == 0) = true) by simp [h3]), passkeyref7ValidateFlashJ2, if_pos rfl, if_pos (by omega)]
      · have h3' : ((f.Bytes.length : Int) == 0) = false := by rw [beq_eq_false_iff_ne]; omega
        rw [h3', if_neg (by decide), asq_pos (by omega), Int.tmod_eq_emod_of_nonneg (by omega)]
        by_cases h4 : (f.Bytes.length : Int) % f.PageSize = 0
        · have hdiv : (f.Bytes.length : Int) / f.PageSize ≤ f.Bytes.length := Int.ediv_le_self _ (by omega)
          have hdiv0 : 0 ≤ (f.Bytes.length : Int) / f.PageSize := Int.ediv_nonneg (by omega) (by omega)
          rw [if_neg (show ¬ ((((f.Bytes.length : Int) % f.PageSize) != (0 : Int)) = true) by simp [h4]), asq_pos (by omega), passkeyref7ValidateFlashJ2, Int.tdiv_eq_ediv_of_nonneg (by omega), w64_of (by omega) (by omega)]
          have hge : f.PageSize ≤ f.Bytes.length := by
            rcases Int.lt_or_le (f.Bytes.length : Int) f.PageSize with h | h
            · rw [Int.emod_eq_of_lt (by omega) h] at h4; omega
            · exact h
          by_cases h5 : 8 < (f.Bytes.length : Int) / f.PageSize
          · rw [if_pos (by simpa using h5)]
            have := (div_le_iff _ _ (by omega) (by omega)).1 h5
            rw [if_pos (by omega)]
          · rw [if_neg (by simpa using h5)]
            have h6 : ¬ (8 * f.PageSize + f.PageSize ≤ f.Bytes.length) := fun h => h5 ((div_le_iff _ _ (by omega) (by omega)).2 h)
            have h7 : ¬ 8 * f.PageSize < f.Bytes.length := by
              intro h
              have hd := Int.emod_add_mul_ediv (f.Bytes.length : Int) f.PageSize
              rw [h4] at hd
              have h8 : (f.Bytes.length : Int) / f.PageSize ≤ 8 := by omega
              have h9 := Int.mul_le_mul_of_nonneg_left h8 (show 0 ≤ f.PageSize by omega)
              omega
            rw [if_neg (by omega)]
        · rw [if_pos (by simpa using h4), passkeyref7ValidateFlashJ2, if_pos rfl, if_pos (by omega)]
/-- The error of a place. -/
def placeE (f : TApiFlash) (page at' n : Int) : Int := if validE f ≠ 0 then validE f else
  if page < 0 ∨ (f.Bytes.length : Int) / f.PageSize ≤ page ∨ at' < 0 ∨ f.PageSize < at' ∨ n < 0 ∨ f.PageSize - at' < n then 9 else 0
abbrev I64 (n : Int) : Prop := -9223372036854775808 ≤ n ∧ n ≤ 9223372036854775807
theorem validE_zero {f : TApiFlash} (h : validE f = 0) : 512 ≤ f.PageSize ∧ f.PageSize ≤ 8192 ∧ f.PageSize ≤ f.Bytes.length ∧ (f.Bytes.length : Int) ≤ 8 * f.PageSize := by
  unfold validE at h
  split at h
  · split at h
    · omega
    · omega
  · omega
/-- A place that is allowed lies within the bytes. -/
theorem placeE_zero {f : TApiFlash} {page at' n : Int} (h : placeE f page at' n = 0) : validE f = 0 ∧ 0 ≤ page ∧ page < 8 ∧ 0 ≤ at' ∧ at' ≤ f.PageSize ∧ 0 ≤ n ∧ n ≤ f.PageSize - at' ∧ 0 ≤ page * f.PageSize ∧ page * f.PageSize + f.PageSize ≤ f.Bytes.length := by
  unfold placeE at h
  split at h
  · omega
  · rename_i hv
    have hv : validE f = 0 := by omega
    obtain ⟨v1, v2, v3, v4⟩ := validE_zero hv
    split at h
    · omega
    · rename_i hc
      have h1 : page + 1 ≤ (f.Bytes.length : Int) / f.PageSize := by omega
      have h2 := (Int.le_ediv_iff_mul_le (by omega)).1 h1
      rw [Int.add_mul, Int.one_mul] at h2
      have h3 : 0 ≤ page * f.PageSize := Int.mul_nonneg (by omega) (by omega)
      have h4 : page < 8 := by
        rcases Int.lt_or_le page 8 with h | h
        · exact h
        · have := Int.mul_le_mul_of_nonneg_right h (show 0 ≤ f.PageSize by omega)
          omega
      exact ⟨hv, by omega, h4, by omega, by omega, by omega, by omega, h3, h2⟩
theorem place_eq (f : TApiFlash) (hf : FOk f) (page at' n : Int) (hp : I64 page) (ha : I64 at') (hn : I64 n) : flashplace f page at' n = some (if placeE f page at' n = 0 then (page * f.PageSize + at', 0) else (0, placeE f page at' n)) := by
  rw [flashplace, show TApiFlash.mk f.PageSize f.Bytes = f from rfl, validate_eq f hf, Option.bind_some]
  by_cases hv : validE f = 0
  · obtain ⟨v1, v2, v3, v4⟩ := validE_zero hv
    have hd0 : 0 ≤ (f.Bytes.length : Int) / f.PageSize := Int.ediv_nonneg (by omega) (by omega)
    have hd1 : (f.Bytes.length : Int) / f.PageSize ≤ f.Bytes.length := Int.ediv_le_self _ (by omega)
    rw [if_neg (by simp [hv])]
    by_cases hc : page < 0 ∨ (f.Bytes.length : Int) / f.PageSize ≤ page ∨ at' < 0 ∨ f.PageSize < at' ∨ n < 0 ∨ f.PageSize - at' < n
    · have he : placeE f page at' n = 9 := by rw [placeE, if_neg (by omega), if_pos hc]
      rw [he]
      by_cases c1 : page < 0
      · rw [if_pos (show decide (page < 0) = true by simpa using c1)]; rfl
      rw [if_neg (show ¬ (decide (page < 0) = true) by simpa using c1), asq_pos (by omega), Int.tdiv_eq_ediv_of_nonneg (by omega), w64_of (by omega) (by omega)]
      by_cases c2 : (f.Bytes.length : Int) / f.PageSize ≤ page
      · rw [if_pos (by simpa using c2)]; rfl
      rw [if_neg (by simpa using c2)]
      by_cases c3 : at' < 0
      · rw [if_pos (by simpa using c3)]; rfl
      rw [if_neg (by simpa using c3)]
      by_cases c4 : f.PageSize < at'
      · rw [if_pos (by simpa using c4)]; rfl
      rw [if_neg (by simpa using c4)]
      by_cases c5 : n < 0
      · rw [if_pos (by simpa using c5)]; rfl
      rw [if_neg (by simpa using c5), w64_of (by omega) (by omega), flashplaceJ1, if_pos (by simp; omega)]; rfl
    · have he : placeE f page at' n = 0 := by rw [placeE, if_neg (by omega), if_neg hc]
      obtain ⟨_, p1, p2, p3, p4, p5, p6, p7, p8⟩ := placeE_zero he
      rw [he, if_neg (show ¬ (decide (page < 0) = true) by simp; omega), asq_pos (by omega), Int.tdiv_eq_ediv_of_nonneg (by omega), w64_of (by omega) (by omega), if_neg (by simp; omega), if_neg (by simp; omega), if_neg (by simp; omega), if_neg (by simp; omega), w64_of (by omega) (by omega), flashplaceJ1, if_neg (by simp; omega), w64_of (n := page * f.PageSize) (by omega) (by omega), w64_of (by omega) (by omega)]; rfl
  · rw [if_pos (by simpa using hv)]
    have he : placeE f page at' n = validE f := by rw [placeE, if_pos hv]
    rw [he, if_neg hv]
theorem area_eq (f : TApiFlash) (hf : FOk f) (page at' n : Int) (hp : I64 page) (ha : I64 at') (hn : I64 n) : passkeyref7area f page at' n = some (placeE f page at' n) := by
  rw [passkeyref7area, show TApiFlash.mk f.PageSize f.Bytes = f from rfl, ref_validate_eq f hf, Option.bind_some]
  by_cases hv : validE f = 0
  · obtain ⟨v1, v2, v3, v4⟩ := validE_zero hv
    have hd0 : 0 ≤ (f.Bytes.length : Int) / f.PageSize := Int.ediv_nonneg (by omega) (by omega)
    have hd1 : (f.Bytes.length : Int) / f.PageSize ≤ f.Bytes.length := Int.ediv_le_self _ (by omega)
    rw [if_neg (by simp [hv])]
    by_cases hc : page < 0 ∨ (f.Bytes.length : Int) / f.PageSize ≤ page ∨ at' < 0 ∨ f.PageSize < at' ∨ n < 0 ∨ f.PageSize - at' < n
    · have he : placeE f page at' n = 9 := by rw [placeE, if_neg (by omega), if_pos hc]
      rw [he]
      by_cases c1 : page < 0
      · rw [if_pos (by simpa using c1)]; rfl
      rw [if_neg (by simpa using c1), asq_pos (by omega), Int.tdiv_eq_ediv_of_nonneg (by omega), w64_of (by omega) (by omega)]
      by_cases c2 : (f.Bytes.length : Int) / f.PageSize ≤ page
      · rw [if_pos (by simpa using c2)]; rfl
      rw [if_neg (by simpa using c2)]
      by_cases c3 : at' < 0
      · rw [if_pos (by simpa using c3)]; rfl
      rw [if_neg (by simpa using c3)]
      by_cases c5 : n < 0
      · rw [if_pos (by simpa using c5)]; rfl
      rw [if_neg (by simpa using c5)]
      by_cases c4 : f.PageSize < at'
      · rw [if_pos (by simpa using c4)]; rfl
      rw [if_neg (by simpa using c4), w64_of (by omega) (by omega), passkeyref7areaJ1, if_pos (by simp; omega)]
    · have he : placeE f page at' n = 0 := by rw [placeE, if_neg (by omega), if_neg hc]
      rw [he, if_neg (by simp; omega), asq_pos (by omega), Int.tdiv_eq_ediv_of_nonneg (by omega), w64_of (by omega) (by omega), if_neg (by simp; omega), if_neg (by simp; omega), if_neg (by simp; omega), if_neg (by simp; omega), w64_of (by omega) (by omega), passkeyref7areaJ1, if_neg (by simp; omega)]
  · rw [if_pos (by simpa using hv)]
    have he : placeE f page at' n = validE f := by rw [placeE, if_pos hv]
    rw [he]
theorem clone_eq (xs : List (BitVec 8)) (h : xs.length ≤ 140737488351232) : slicesClonebytebyte xs = some xs := by
  have h1 : slicesClonebytebyteJ1 xs false = some xs := by
    rw [slicesClonebytebyteJ1, if_neg (by simp)]
    split
    · rename_i he; simp at he; rw [he]
    · rw [asq_pos (by simp; omega)]; simp
  rw [slicesClonebytebyte]
  split
  · rename_i he
    simp at he
    refine both_same ?_ h1
    rw [slicesClonebytebyteJ1, if_pos rfl, he]
  · exact h1
theorem cloneOwn_eq (xs : List (BitVec 8)) (h : xs.length ≤ 140737488351232) (h0 : xs ≠ []) : slicesClonebytebyteOwn xs = some xs := by
  have he : xs.isEmpty = false := by simpa using h0
  rw [slicesClonebytebyteOwn, he, if_neg (by simp), slicesClonebytebyteOwnJ1, if_neg (by simp), he, if_neg (by simp), asq_pos (by simp; omega)]
  simp
theorem read_eq (f : TApiFlash) (hf : FOk f) (page at' n : Int) (hp : I64 page) (ha : I64 at') (hn : I64 n) : flashRead f page at' n = some (if placeE f page at' n = 0 then (dropTake (page * f.PageSize + at').toNat (page * f.PageSize + at' + n).toNat f.Bytes, 0) else ([], placeE f page at' n)) := by
  rw [flashRead, show TApiFlash.mk f.PageSize f.Bytes = f from rfl, place_eq f hf page at' n hp ha hn, Option.bind_some]
  by_cases he : placeE f page at' n = 0
  · obtain ⟨_, p1, p2, p3, p4, p5, p6, p7, p8⟩ := placeE_zero he
    rw [if_pos he, if_neg (by simp), if_pos he]
    simp only
    rw [w64_of (by omega) (by omega), asq_pos (by omega), clone_eq _ (by rw [dropTake_length _ _ _ (by omega) (by omega)]; omega)]
    rfl
  · rw [if_neg he, if_pos (by simpa using he), if_neg he]
theorem ref_read_eq (f : TApiFlash) (hf : FOk f) (page at' n : Int) (hp : I64 page) (ha : I64 at') (hn : I64 n) : passkeyref7Read f page at' n = some (if placeE f page at' n = 0 then (dropTake (page * f.PageSize + at').toNat (page * f.PageSize + at' + n).toNat f.Bytes, 0) else ([], placeE f page at' n)) := by
  rw [passkeyref7Read, show TApiFlash.mk f.PageSize f.Bytes = f from rfl, area_eq f hf page at' n hp ha hn, Option.bind_some]
  by_cases he : placeE f page at' n = 0
  · obtain ⟨_, p1, p2, p3, p4, p5, p6, p7, p8⟩ := placeE_zero he
    rw [if_neg (by simp [he]), if_pos he, w64_of (n := page * f.PageSize) (by omega) (by omega), w64_of (n := page * f.PageSize + at') (by omega) (by omega), w64_of (by omega) (by omega), asq_pos (by omega), lett_def, asq_pos (by rw [dropTake_length _ _ _ (by omega) (by omega)]; omega)]
  · rw [if_pos (by simpa using he), if_neg he]
/-! ### changes -/
/-- m bytes from place i + k on, each by g. -/
def chg (g : Nat → BitVec 8 → BitVec 8) (i : Nat) : Nat → Nat → List (BitVec 8) → List (BitVec 8)
  | 0, _, bs => bs
  | m + 1, k, bs => chg g i m (k + 1) (bs.set (i + k) (g k (bs.getD (i + k) 0#8)))
theorem chg_length (g : Nat → BitVec 8 → BitVec 8) (i : Nat) : ∀ (m k : Nat) (bs : List (BitVec 8)), (chg g i m k bs).length = bs.length
  | 0, _, _ => rfl
  | m + 1, k, bs => by rw [chg, chg_length g i m]; simp
theorem chg_get (g : Nat → BitVec 8 → BitVec 8) (i : Nat) : ∀ (m k : Nat) (bs : List (BitVec 8)) (j : Nat), j < bs.length → (chg g i m k bs).getD j 0#8 = if i + k ≤ j ∧ j < i + k + m then g (j - i) (bs.getD j 0#8) else bs.getD j 0#8
  | 0, k, bs, j, h => by rw [chg, if_neg (by omega)]
  | m + 1, k, bs, j, h => by
    rw [chg, chg_get g i m (k + 1) _ j (by simpa using h)]
    by_cases hj : j = i + k
    · subst hj
      rw [if_neg (by omega), if_pos (by omega)]
      simp [List.getD_eq_getElem?_getD, h]
    · have hs : (bs.set (i + k) (g k (bs.getD (i + k) 0#8))).getD j 0#8 = bs.getD j 0#8 := by
        simp only [List.getD_eq_getElem?_getD]
        rw [List.getElem?_set_ne (by omega)]
      rw [hs]
      by_cases h1 : i + (k + 1) ≤ j ∧ j < i + (k + 1) + m
      · rw [if_pos h1, if_pos (by omega)]
      · rw [if_neg h1, if_neg (by omega)]
theorem chg_split (g : Nat → BitVec 8 → BitVec 8) (i : Nat) : ∀ (a b k : Nat) (bs : List (BitVec 8)), chg g i (a + b) k bs = chg g i b (k + a) (chg g i a k bs)
  | 0, b, k, bs => by rw [Nat.zero_add]; rfl
  | a + 1, b, k, bs => by
    rw [show a + 1 + b = (a + b) + 1 by omega, chg, chg, chg_split g i a b (k + 1), show k + (a + 1) = k + 1 + a by omega]
theorem chg_shift (g : Nat → BitVec 8 → BitVec 8) (i d : Nat) : ∀ (m k : Nat) (bs : List (BitVec 8)), chg g i m (k + d) bs = chg (fun j x => g (j + d) x) (i + d) m k bs
  | 0, _, _ => rfl
  | m + 1, k, bs => by
    rw [chg, chg, ← chg_shift g i d m (k + 1), show k + d + 1 = k + 1 + d by omega, show i + (k + d) = i + d + k by omega]
theorem chg_congr (g g' : Nat → BitVec 8 → BitVec 8) (i : Nat) : ∀ (m k : Nat) (bs : List (BitVec 8)), (∀ j x, k ≤ j → j < k + m → g j x = g' j x) → chg g i m k bs = chg g' i m k bs
  | 0, _, _, _ => rfl
  | m + 1, k, bs, h => by
    rw [chg, chg, h k _ (Nat.le_refl _) (by omega), chg_congr g g' i m (k + 1) _ fun j x h1 h2 => h j x (by omega) (by omega)]
/-- How many bytes are changed, what is left of the budget, the error. -/
def doneOf (n : Nat) (budget : Int) : Nat := if 0 ≤ budget then min n budget.toNat else n
def leftOf (n : Nat) (budget : Int) : Int := if 0 ≤ budget then budget - (doneOf n budget : Nat) else budget
def errOf (n : Nat) (budget : Int) : Int := if doneOf n budget < n then 16 else 0
def pg (b : List (BitVec 8)) (k : Nat) (x : BitVec 8) : BitVec 8 := x &&& b.getD k 0#8
def eg (_ : Nat) (_ : BitVec 8) : BitVec 8 := 255#8
theorem prog_loop (f : TApiFlash) (i n : Nat) (b : List (BitVec 8)) (left e : Int) (hi : i + n ≤ 140737488351232) (hb : n ≤ b.length) : ∀ (m j k : Nat) (bs : List (BitVec 8)), j + m = n → m < k → i + n ≤ bs.length →
    flashchangeFflashProgram1L4 f i b left n e k bs j = some (⟨f.PageSize, chg (pg b) i m j bs⟩, left, e)
  | 0, j, k + 1, bs, h, _, _ => by rw [flashchangeFflashProgram1L4, if_neg (by simp; omega)]; rfl
  | m + 1, j, k + 1, bs, h, hk, hl => by
    have e1 : w64 ((i : Int) + (j : Int)) = ((i + j : Nat) : Int) := by rw [w64_of (by omega) (by omega)]; omega
    have e2 : w64 ((j : Int) + 1) = ((j + 1 : Nat) : Int) := by rw [w64_of (by omega) (by omega)]; omega
    rw [flashchangeFflashProgram1L4, if_pos (by simp; omega), e1, e2, asq_pos (by omega), flashProgram1I2, asq_pos (by omega), Option.bind_some, asq_pos (by omega), prog_loop f i n b left e hi hb m (j + 1) k _ (by omega) (by omega) (by simpa using hl), chg]
    simp only [Int.toNat_natCast, Nat.zero_add, pg]
theorem erase_loop (f : TApiFlash) (i n : Nat) (left e : Int) (hi : i + n ≤ 140737488351232) : ∀ (m j k : Nat) (bs : List (BitVec 8)), j + m = n → m < k → i + n ≤ bs.length →
    flashchangeFflashErase1L4 f i left n e k bs j = some (⟨f.PageSize, chg eg i m j bs⟩, left, e)
  | 0, j, k + 1, bs, h, _, _ => by rw [flashchangeFflashErase1L4, if_neg (by simp; omega)]; rfl
  | m + 1, j, k + 1, bs, h, hk, hl => by
    have e1 : w64 ((i : Int) + (j : Int)) = ((i + j : Nat) : Int) := by rw [w64_of (by omega) (by omega)]; omega
    have e2 : w64 ((j : Int) + 1) = ((j + 1 : Nat) : Int) := by rw [w64_of (by omega) (by omega)]; omega
    rw [flashchangeFflashErase1L4, if_pos (by simp; omega), e1, e2, asq_pos (by omega), flashErase1, Option.bind_some, asq_pos (by omega), erase_loop f i n left e hi m (j + 1) k _ (by omega) (by omega) (by simpa using hl), chg]
    simp only [Int.toNat_natCast, Nat.zero_add, eg]
theorem done_le (n : Nat) (budget : Int) : doneOf n budget ≤ n := by unfold doneOf; split <;> omega
theorem chp_eq (f : TApiFlash) (hf : FOk f) (h0 : f.Bytes ≠ []) (i : Nat) (b : List (BitVec 8)) (budget : Int) (hB : I64 budget) (hi : i + b.length ≤ f.Bytes.length) :
    flashchangeFflashProgram1 f i b.length budget b = some (⟨f.PageSize, chg (pg b) i (doneOf b.length budget) 0 f.Bytes⟩, leftOf b.length budget, errOf b.length budget) := by
  have hd := done_le b.length budget
  have J1 : flashchangeFflashProgram1J1 f i b.length b f.Bytes (leftOf b.length budget) (doneOf b.length budget : Nat) = some (⟨f.PageSize, chg (pg b) i (doneOf b.length budget) 0 f.Bytes⟩, leftOf b.length budget, errOf b.length budget) := by
    have L := fun e => prog_loop f i (doneOf b.length budget) b (leftOf b.length budget) e (by omega) hd (doneOf b.length budget) 0 FUEL f.Bytes (by omega) (by simp only [FUEL]; omega) (by omega)
    rw [flashchangeFflashProgram1J1, errOf]
    by_cases h : doneOf b.length budget < b.length
    · rw [if_pos (by simpa using h), if_pos h, flashchangeFflashProgram1J2]; exact L 16
    · rw [if_neg (by simpa using h), if_neg h, flashchangeFflashProgram1J2]; exact L 0
  rw [flashchangeFflashProgram1, cloneOwn_eq _ hf h0, Option.bind_some]
  by_cases hb : 0 ≤ budget
  · rw [if_pos (by simpa using hb)]
    have e1 : (if budget < (b.length : Int) then budget else (b.length : Int)) = ((doneOf b.length budget : Nat) : Int) := by
      rw [doneOf, if_pos hb]; split <;> omega
    rw [e1, w64_of (by omega) (by omega)]
    have e2 : budget - ((doneOf b.length budget : Nat) : Int) = leftOf b.length budget := by rw [leftOf, if_pos hb]
    rw [e2]; exact J1
  · rw [if_neg (by simpa using hb)]
    have e1 : doneOf b.length budget = b.length := by rw [doneOf, if_neg hb]
    have e2 : leftOf b.length budget = budget := by rw [leftOf, if_neg hb]
    rw [e2] at J1 ⊢
    rw [e1] at J1 ⊢
    exact J1
theorem che_eq (f : TApiFlash) (hf : FOk f) (h0 : f.Bytes ≠ []) (i n : Nat) (budget : Int) (hB : I64 budget) (hi : i + n ≤ f.Bytes.length) :
    flashchangeFflashErase1 f i n budget = some (⟨f.PageSize, chg eg i (doneOf n budget) 0 f.Bytes⟩, leftOf n budget, errOf n budget) := by
  have hd := done_le n budget
  have J1 : flashchangeFflashErase1J1 f i n f.Bytes (leftOf n budget) (doneOf n budget : Nat) = some (⟨f.PageSize, chg eg i (doneOf n budget) 0 f.Bytes⟩, leftOf n budget, errOf n budget) := by
    have L := fun e => erase_loop f i (doneOf n budget) (leftOf n budget) e (by omega) (doneOf n budget) 0 FUEL f.Bytes (by omega) (by simp only [FUEL]; omega) (by omega)
    rw [flashchangeFflashErase1J1, errOf]
    by_cases h : doneOf n budget < n
    · rw [if_pos (by simpa using h), if_pos h, flashchangeFflashErase1J2]; exact L 16
    · rw [if_neg (by simpa using h), if_neg h, flashchangeFflashErase1J2]; exact L 0
  rw [flashchangeFflashErase1, cloneOwn_eq _ hf h0, Option.bind_some]
  by_cases hb : 0 ≤ budget
  · rw [if_pos (by simpa using hb)]
    have e1 : (if budget < (n : Int) then budget else (n : Int)) = ((doneOf n budget : Nat) : Int) := by
      rw [doneOf, if_pos hb]; split <;> omega
    rw [e1, w64_of (by omega) (by omega)]
    have e2 : budget - ((doneOf n budget : Nat) : Int) = leftOf n budget := by rw [leftOf, if_pos hb]
    rw [e2]; exact J1
  · rw [if_neg (by simpa using hb)]
    have e1 : doneOf n budget = n := by rw [doneOf, if_neg hb]
    have e2 : leftOf n budget = budget := by rw [leftOf, if_neg hb]
    rw [e2] at J1 ⊢
    rw [e1] at J1 ⊢
    exact J1
/-- The reference's rounds: by g, while the budget lasts. -/
theorem ref_change_loop (f : TApiFlash) (i n : Nat) (b : List (BitVec 8)) (g : Nat → BitVec 8 → BitVec 8) (hg : (b = [] ∧ g = eg) ∨ (n = b.length ∧ b ≠ [] ∧ g = pg b)) (hi : i + n ≤ 140737488351232) : ∀ (m j k : Nat) (budget : Int) (bs : List (BitVec 8)), j + m = n → m < k → i + n ≤ bs.length → I64 budget →
    passkeyref7changeL2 f i n b k budget bs j = some (⟨f.PageSize, chg g i (doneOf m budget) j bs⟩, leftOf m budget, errOf m budget)
  | 0, j, k + 1, budget, bs, h, _, _, _ => by
    rw [passkeyref7changeL2, if_neg (by simp; omega), passkeyref7changeJ1]
    have h1 : doneOf 0 budget = 0 := by have := done_le 0 budget; omega
    rw [leftOf, errOf, h1]
    simp [chg]
  | m + 1, j, k + 1, budget, bs, h, hk, hl, hB => by
    have e1 : w64 ((i : Int) + (j : Int)) = ((i + j : Nat) : Int) := by rw [w64_of (by omega) (by omega)]; omega
    have e2 : w64 ((j : Int) + 1) = ((j + 1 : Nat) : Int) := by rw [w64_of (by omega) (by omega)]; omega
    rw [passkeyref7changeL2, if_pos (by simp; omega)]
    by_cases hb : budget = 0
    · subst hb
      rw [if_pos (by simp)]
      have h1 : doneOf (m + 1) 0 = 0 := by simp [doneOf]
      rw [leftOf, errOf, h1]
      simp [chg]
    · rw [if_neg (by simpa using hb)]
      have step : ∀ bs' : List (BitVec 8), bs'.length = bs.length → passkeyref7changeJ4 (passkeyref7changeL2 f i n b k) budget j bs' = some (⟨f.PageSize, chg g i (doneOf (m + 1) budget - 1) (j + 1) bs'⟩, leftOf (m + 1) budget, errOf (m + 1) budget) := by
        intro bs' hl'
        rw [passkeyref7changeJ4]
        by_cases hpos : 0 < budget
        · rw [if_pos (by simpa using hpos), passkeyref7changeJ3, e2, w64_of (by omega) (by omega), ref_change_loop f i n b g hg hi m (j + 1) k (budget - 1) bs' (by omega) (by omega) (by omega) (by omega)]
          have d : doneOf m (budget - 1) = doneOf (m + 1) budget - 1 ∧ 0 < doneOf (m + 1) budget := by
            simp only [doneOf]; rw [if_pos (by omega), if_pos (by omega)]; omega
          have l : leftOf m (budget - 1) = leftOf (m + 1) budget := by
            simp only [leftOf]; rw [if_pos (by omega), if_pos (by omega), d.1]; omega
          have er : errOf m (budget - 1) = errOf (m + 1) budget := by
            simp only [errOf, d.1]
            by_cases hx : doneOf (m + 1) budget < m + 1
            · rw [if_pos hx, if_pos (by omega)]
            · rw [if_neg hx, if_neg (by omega)]
          rw [d.1, l, er]
        · rw [if_neg (by simpa using hpos), passkeyref7changeJ3, e2, ref_change_loop f i n b g hg hi m (j + 1) k budget bs' (by omega) (by omega) (by omega) hB]
          have d : doneOf m budget = doneOf (m + 1) budget - 1 := by
            simp only [doneOf]; rw [if_neg (by omega), if_neg (by omega)]; omega
          have l : leftOf m budget = leftOf (m + 1) budget := by
            simp only [leftOf]; rw [if_neg (by omega), if_neg (by omega)]
          have er : errOf m budget = errOf (m + 1) budget := by
            have d1 : doneOf m budget = m := by rw [doneOf, if_neg (by omega)]
            have d2 : doneOf (m + 1) budget = m + 1 := by rw [doneOf, if_neg (by omega)]
            rw [errOf, errOf, d1, d2, if_neg (by omega), if_neg (by omega)]
          rw [d, l, er]
      have hpos : 0 < doneOf (m + 1) budget := by simp only [doneOf]; split <;> omega
      obtain ⟨d, hd⟩ : ∃ d, doneOf (m + 1) budget = d + 1 := ⟨doneOf (m + 1) budget - 1, by omega⟩
      have e3 : chg g i (doneOf (m + 1) budget) j bs = chg g i (doneOf (m + 1) budget - 1) (j + 1) (bs.set (i + j) (g j (bs.getD (i + j) 0#8))) := by
        rw [hd, chg]; rfl
      rw [e3, e1]
      rcases hg with ⟨hb0, hg⟩ | ⟨hn, hb0, hg⟩
      · rw [if_pos (by simp [hb0]), asq_pos (by omega), step _ (by simp), hg]
        simp only [Int.toNat_natCast, Nat.zero_add, eg]
      · have hbl : 0 < b.length := List.length_pos_iff.2 hb0
        rw [if_neg (by simp; omega), asq_pos (by omega), asq_pos (by omega), lett_def, asq_pos (by omega), step _ (by simp), hg]
        simp only [Int.toNat_natCast, Nat.zero_add, pg]
theorem ref_prog_eq (f : TApiFlash) (hf : FOk f) (i : Nat) (b : List (BitVec 8)) (budget : Int) (hB : I64 budget) (hi : i + b.length ≤ f.Bytes.length) :
    passkeyref7change f i b.length b budget = some (⟨f.PageSize, chg (pg b) i (doneOf b.length budget) 0 f.Bytes⟩, leftOf b.length budget, errOf b.length budget) := by
  rw [passkeyref7change, asq_pos (by omega)]
  by_cases hb : b = []
  · subst hb
    have := ref_change_loop f i 0 [] eg (Or.inl ⟨rfl, rfl⟩) (by simp at hi; omega) 0 0 FUEL budget f.Bytes rfl (by simp only [FUEL]; omega) (by simpa using hi) hB
    have h1 : doneOf 0 budget = 0 := by have := done_le 0 budget; omega
    simp only [List.length_nil]
    rw [h1] at this ⊢
    exact this
  · exact ref_change_loop f i b.length b (pg b) (Or.inr ⟨rfl, hb, rfl⟩) (by omega) b.length 0 FUEL budget f.Bytes (by omega) (by simp only [FUEL]; omega) hi hB
theorem ref_erase_eq (f : TApiFlash) (hf : FOk f) (i n : Nat) (budget : Int) (hB : I64 budget) (hi : i + n ≤ f.Bytes.length) :
    passkeyref7change f i n [] budget = some (⟨f.PageSize, chg eg i (doneOf n budget) 0 f.Bytes⟩, leftOf n budget, errOf n budget) := by
  rw [passkeyref7change, asq_pos (by omega)]
  exact ref_change_loop f i n [] eg (Or.inl ⟨rfl, rfl⟩) (by omega) n 0 FUEL budget f.Bytes (by omega) (by simp only [FUEL]; omega) hi hB
/-- What Program and Erase come to. -/
def progOut (f : TApiFlash) (page at' : Int) (b : List (BitVec 8)) (budget : Int) : TApiFlash × Int × Int :=
  if placeE f page at' b.length = 0 then (⟨f.PageSize, chg (pg b) (page * f.PageSize + at').toNat (doneOf b.length budget) 0 f.Bytes⟩, leftOf b.length budget, errOf b.length budget) else (⟨0, []⟩, 0, placeE f page at' b.length)
def eraseOut (f : TApiFlash) (page budget : Int) : TApiFlash × Int × Int :=
  if placeE f page 0 0 = 0 then (⟨f.PageSize, chg eg (page * f.PageSize).toNat (doneOf f.PageSize.toNat budget) 0 f.Bytes⟩, leftOf f.PageSize.toNat budget, errOf f.PageSize.toNat budget) else (⟨0, []⟩, 0, placeE f page 0 0)
theorem program_eq (f : TApiFlash) (hf : FOk f) (page at' : Int) (b : List (BitVec 8)) (budget : Int) (hp : I64 page) (ha : I64 at') (hb : b.length ≤ 140737488351232) (hB : I64 budget) : flashProgram f page at' b budget = some (progOut f page at' b budget) := by
  rw [flashProgram, show TApiFlash.mk f.PageSize f.Bytes = f from rfl, place_eq f hf page at' b.length hp ha (by omega), Option.bind_some, progOut]
  by_cases he : placeE f page at' b.length = 0
  · obtain ⟨hv, p1, p2, p3, p4, p5, p6, p7, p8⟩ := placeE_zero he
    obtain ⟨v1, v2, v3, v4⟩ := validE_zero hv
    have h0 : f.Bytes ≠ [] := by intro h; rw [h] at v3; simp at v3; omega
    rw [if_pos he, if_neg (by simp), if_pos he]
    simp only
    obtain ⟨i, hi⟩ := Int.eq_ofNat_of_zero_le (show 0 ≤ page * f.PageSize + at' by omega)
    rw [hi, Int.toNat_natCast, chp_eq f hf h0 i b budget hB (by omega)]
    rfl
  · rw [if_neg he, if_pos (by simpa using he), if_neg he]
theorem ref_program_eq (f : TApiFlash) (hf : FOk f) (page at' : Int) (b : List (BitVec 8)) (budget : Int) (hp : I64 page) (ha : I64 at') (hb : b.length ≤ 140737488351232) (hB : I64 budget) : passkeyref7Program f page at' b budget = some (progOut f page at' b budget) := by
  rw [passkeyref7Program, show TApiFlash.mk f.PageSize f.Bytes = f from rfl, area_eq f hf page at' b.length hp ha (by omega), Option.bind_some, progOut]
  by_cases he : placeE f page at' b.length = 0
  · obtain ⟨hv, p1, p2, p3, p4, p5, p6, p7, p8⟩ := placeE_zero he
    rw [if_neg (by simp [he]), if_pos he, w64_of (n := page * f.PageSize) (by omega) (by omega), w64_of (by omega) (by omega)]
    obtain ⟨i, hi⟩ := Int.eq_ofNat_of_zero_le (show 0 ≤ page * f.PageSize + at' by omega)
    rw [hi, Int.toNat_natCast, ref_prog_eq f hf i b budget hB (by omega)]
    rfl
  · rw [if_pos (by simpa using he), if_neg he]
theorem erase_eq (f : TApiFlash) (hf : FOk f) (page : Int) (budget : Int) (hp : I64 page) (hB : I64 budget) : flashErase f page budget = some (eraseOut f page budget) := by
  rw [flashErase, show TApiFlash.mk f.PageSize f.Bytes = f from rfl, place_eq f hf page 0 0 hp (by omega) (by omega), Option.bind_some, eraseOut]
  by_cases he : placeE f page 0 0 = 0
  · obtain ⟨hv, p1, p2, p3, p4, p5, p6, p7, p8⟩ := placeE_zero he
    obtain ⟨v1, v2, v3, v4⟩ := validE_zero hv
    have h0 : f.Bytes ≠ [] := by intro h; rw [h] at v3; simp at v3; omega
    rw [if_pos he, if_neg (by simp), if_pos he]
    simp only [Int.add_zero]
    obtain ⟨i, hi⟩ := Int.eq_ofNat_of_zero_le p7
    obtain ⟨n, hn⟩ := Int.eq_ofNat_of_zero_le (show 0 ≤ f.PageSize by omega)
    have := che_eq f hf h0 i n budget hB (by omega)
    rw [hi, Int.toNat_natCast]
    conv => lhs; arg 1; rw [hn, this]
    rw [hn, Int.toNat_natCast]
    rfl
  · rw [if_neg he, if_pos (by simpa using he), if_neg he]
theorem ref_erase_all_eq (f : TApiFlash) (hf : FOk f) (page : Int) (budget : Int) (hp : I64 page) (hB : I64 budget) : passkeyref7Erase f page budget = some (eraseOut f page budget) := by
  rw [passkeyref7Erase, show TApiFlash.mk f.PageSize f.Bytes = f from rfl, area_eq f hf page 0 0 hp (by omega) (by omega), Option.bind_some, eraseOut]
  by_cases he : placeE f page 0 0 = 0
  · obtain ⟨hv, p1, p2, p3, p4, p5, p6, p7, p8⟩ := placeE_zero he
    obtain ⟨v1, v2, v3, v4⟩ := validE_zero hv
    rw [if_neg (by simp [he]), if_pos he, w64_of (n := page * f.PageSize) (by omega) (by omega)]
    obtain ⟨i, hi⟩ := Int.eq_ofNat_of_zero_le p7
    obtain ⟨n, hn⟩ := Int.eq_ofNat_of_zero_le (show 0 ≤ f.PageSize by omega)
    have := ref_erase_eq f hf i n budget hB (by omega)
    rw [hi, Int.toNat_natCast]
    conv => lhs; arg 1; rw [hn, this]
    rw [hn, Int.toNat_natCast]
    rfl
  · rw [if_pos (by simpa using he), if_neg he]
theorem same_refl (f : TApiFlash) : passkeyref7SameFlash f f = some true := by
  rw [passkeyref7SameFlash, if_pos (by simp)]; simp
end Go.Proofs.Ty
