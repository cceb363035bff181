/- SharingValues: the values of any shares at any place, or the error. -/
import Derived.Test.YtkiffaadahpbkaaPRestores
import Derived.Test.YtkiffaadahpbkaaPBytes
import Derived.Test.YtkiffaadahpbkaaPField
set_option linter.unusedSimpArgs false
set_option linter.unusedVariables false
namespace Go.Proofs.Ty
open Go Go.RW
def sX (l : List TApiShare) (i : Nat) : Int := (l.getD i zS).X
def sD (l : List TApiShare) (i : Nat) : List (BitVec 8) := (l.getD i zS).Data
def dup (l : List TApiShare) (i : Nat) : Bool := (List.range i).any fun j => decide (sX l j = sX l i)
theorem dup_iff (l : List TApiShare) (i : Nat) : dup l i = true ↔ ∃ j, j < i ∧ sX l j = sX l i := by simp [dup]
def shareE (l : List TApiShare) (i : Nat) : Int :=
  if sX l i < 1 ∨ 255 < sX l i then 9 else if dup l i = true then 10 else if (sD l i).length ≠ (sD l 0).length then 4 else if 64 < (sD l i).length then 8 else 0
def chk (l : List TApiShare) : Nat → Nat → Int
  | 0, _ => 0
  | m + 1, i => if shareE l i ≠ 0 then shareE l i else chk l m (i + 1)
theorem chk_bad {l : List TApiShare} {m i : Nat} {e : Int} (h : shareE l i = e) (h0 : e ≠ 0) : chk l (m + 1) i = e := by rw [chk, h, if_pos h0]
theorem chk_good {l : List TApiShare} {m i : Nat} (h : shareE l i = 0) : chk l (m + 1) i = chk l m (i + 1) := by rw [chk, h, if_neg (by simp)]
theorem at_first (l : List TApiShare) (hl : l.length ≤ 255) (a : Int) : ∀ (m i k : Nat) (seen : List Bool), i + m = l.length → m < k → seen.length = 256 → (∀ x, seen.getD x false = true ↔ ∃ j, j < i ∧ sX l j = (x : Int)) →
    sharingAtL10 l a k seen i = if chk l m i ≠ 0 then some ([], chk l m i) else sharingAtJ2 l a
  | 0, i, k + 1, seen, h, hk, hsl, hs => by rw [sharingAtL10, if_neg (by simp; omega), chk, if_neg (by simp)]
  | m + 1, i, k + 1, seen, h, hk, hsl, hs => by
    have e2 : w64 ((i : Int) + 1) = ((i + 1 : Nat) : Int) := by rw [w64_of (by omega) (by omega)]; omega
    have hX : (l.getD (i : Int).toNat (TApiShare.mk (0 : Int) ([] : List (BitVec 8)))).X = sX l i := by rw [Int.toNat_natCast]; rfl
    have hD : (l.getD (i : Int).toNat (TApiShare.mk (0 : Int) ([] : List (BitVec 8)))).Data = sD l i := by rw [Int.toNat_natCast]; rfl
    have hD0 : (l.getD (0 : Int).toNat (TApiShare.mk (0 : Int) ([] : List (BitVec 8)))).Data = sD l 0 := rfl
    rw [sharingAtL10, if_pos (by simp; omega), asq_pos (by omega), hX]
    by_cases c1 : sX l i < 1
    · have e0 : shareE l i = 9 := by rw [shareE, if_pos (Or.inl c1)]
      rw [if_pos (decide_eq_true c1), sharingAtJ11, if_pos rfl, chk_bad e0 (by decide), if_pos (by decide)]
    rw [if_neg (by simpa using c1), sharingAtJ11]
    by_cases c2 : 255 < sX l i
    · have e0 : shareE l i = 9 := by rw [shareE, if_pos (Or.inr c2)]
      rw [if_pos (decide_eq_true c2), chk_bad e0 (by decide), if_pos (by decide)]
    obtain ⟨x, hx⟩ := Int.eq_ofNat_of_zero_le (show 0 ≤ sX l i by omega)
    have h2 := dup_iff l i
    rw [hx] at h2
    have hseen : seen.getD x false = dup l i := Bool.eq_iff_iff.2 ((hs x).trans h2.symm)
    rw [if_neg (by simpa using c2), hX, hD, hD0, asq_pos (by omega), asq_pos (by omega), hx, Int.toNat_natCast, hseen]
    by_cases c3 : dup l i = true
    · have e0 : shareE l i = 10 := by rw [shareE, if_neg (by omega), if_pos c3]
      rw [if_pos c3, chk_bad e0 (by decide), if_pos (by decide)]
    rw [if_neg c3, asq_pos (by omega)]
    by_cases c4 : (sD l i).length = (sD l 0).length
    · rw [if_neg (by rw [c4]; simp)]
      by_cases c5 : 64 < (sD l i).length
      · have e0 : shareE l i = 8 := by rw [shareE, if_neg (by omega), if_neg c3, if_neg (by omega), if_pos c5]
        rw [if_pos (by rw [decide_eq_true_eq]; omega), chk_bad e0 (by decide), if_pos (by decide)]
      rw [if_neg (by rw [decide_eq_true_eq]; omega), asq_pos (by omega), asq_pos (by omega), e2]
      have e0 : shareE l i = 0 := by rw [shareE, if_neg (by omega), if_neg c3, if_neg (by omega), if_neg c5]
      rw [chk_good e0]
      refine at_first l hl a m (i + 1) k _ (by omega) (by omega) (by simpa using hsl) ?_
      intro y
      constructor
      · intro hy
        rcases seen_set _ _ _ hy with h1 | h1
        · exact ⟨i, by omega, by rw [hx, h1]⟩
        · obtain ⟨j, hj, e⟩ := (hs y).1 h1
          exact ⟨j, by omega, e⟩
      · rintro ⟨j, hj, e⟩
        by_cases hij : j = i
        · have : y = x := by rw [hij, hx] at e; omega
          rw [this, List.getD_eq_getElem?_getD, List.getElem?_set_self (by omega)]; rfl
        · have h1 := (hs y).2 ⟨j, by omega, e⟩
          by_cases hyx : x = y
          · rw [hyx, List.getD_eq_getElem?_getD, List.getElem?_set_self (by omega)]; rfl
          · rw [List.getD_eq_getElem?_getD, List.getElem?_set_ne hyx, ← List.getD_eq_getElem?_getD]; exact h1
    · have e0 : shareE l i = 4 := by rw [shareE, if_neg (by omega), if_neg c3, if_pos c4]
      rw [if_pos (by simp; omega), chk_bad e0 (by decide), if_pos (by decide)]
theorem ref_dup (l : List TApiShare) (hl : l.length ≤ 255) (i : Nat) (hi : i < l.length) : ∀ (m j k : Nat), j + m = i → m < k → (∀ t, t < j → sX l t ≠ sX l i) →
    passkeyref37shareL3 l i k j = if dup l i = true then some 10 else passkeyref37shareJ2 l i
  | 0, j, k + 1, h, hk, hp => by
    rw [passkeyref37shareL3, if_neg (by simp; omega), if_neg]
    rw [dup_iff]; rintro ⟨t, ht, e⟩; exact hp t (by omega) e
  | m + 1, j, k + 1, h, hk, hp => by
    have e2 : w64 ((j : Int) + 1) = ((j + 1 : Nat) : Int) := by rw [w64_of (by omega) (by omega)]; omega
    have hX : ∀ n : Nat, (l.getD (n : Int).toNat (TApiShare.mk (0 : Int) ([] : List (BitVec 8)))).X = sX l n := fun n => by rw [Int.toNat_natCast]; rfl
    rw [passkeyref37shareL3, if_pos (by simp; omega), asq_pos (by omega), asq_pos (by omega), hX, hX]
    by_cases c : sX l j = sX l i
    · rw [if_pos (by simpa using c), if_pos ((dup_iff l i).2 ⟨j, by omega, c⟩)]
    · rw [if_neg (by simpa using c), e2]
      refine ref_dup l hl i hi m (j + 1) k (by omega) (by omega) ?_
      intro t ht
      by_cases e : t = j
      · rw [e]; exact c
      · exact hp t (by omega)
theorem ref_share (l : List TApiShare) (hl : l.length ≤ 255) (i : Nat) (hi : i < l.length) : passkeyref37share l i = some (shareE l i) := by
  have hX : (l.getD (i : Int).toNat (TApiShare.mk (0 : Int) ([] : List (BitVec 8)))).X = sX l i := by rw [Int.toNat_natCast]; rfl
  have hD : (l.getD (i : Int).toNat (TApiShare.mk (0 : Int) ([] : List (BitVec 8)))).Data = sD l i := by rw [Int.toNat_natCast]; rfl
  have hD0 : (l.getD (0 : Int).toNat (TApiShare.mk (0 : Int) ([] : List (BitVec 8)))).Data = sD l 0 := rfl
  rw [passkeyref37share, asq_pos (by omega), hX]
  by_cases c1 : sX l i < 1
  · have e0 : shareE l i = 9 := by rw [shareE, if_pos (Or.inl c1)]
    rw [if_pos (decide_eq_true c1), passkeyref37shareJ1, if_pos rfl, e0]
  rw [if_neg (by simpa using c1), asq_pos (by omega), passkeyref37shareJ1]
  by_cases c2 : 255 < sX l i
  · have e0 : shareE l i = 9 := by rw [shareE, if_pos (Or.inr c2)]
    rw [if_pos (decide_eq_true c2), e0]
  rw [if_neg (by simpa using c2)]
  have h3 := ref_dup l hl i hi i 0 FUEL (by omega) (by simp only [FUEL]; omega) (by omega)
  refine Eq.trans h3 ?_
  by_cases c3 : dup l i = true
  · have e0 : shareE l i = 10 := by rw [shareE, if_neg (by omega), if_pos c3]
    rw [if_pos c3, e0]
  rw [if_neg c3, passkeyref37shareJ2, asq_pos (by omega), asq_pos (by omega), hD, hD0]
  by_cases c4 : (sD l i).length = (sD l 0).length
  · rw [if_neg (by rw [c4]; simp), asq_pos (by omega)]
    by_cases c5 : 64 < (sD l i).length
    · have e0 : shareE l i = 8 := by rw [shareE, if_neg (by omega), if_neg c3, if_neg (by omega), if_pos c5]
      rw [if_pos (by rw [decide_eq_true_eq]; omega), e0]
    · have e0 : shareE l i = 0 := by rw [shareE, if_neg (by omega), if_neg c3, if_neg (by omega), if_neg c5]
      rw [if_neg (by rw [decide_eq_true_eq]; omega), e0]
  · have e0 : shareE l i = 4 := by rw [shareE, if_neg (by omega), if_neg c3, if_pos c4]
    rw [if_pos (by simp; omega), e0]
theorem ref_first (l : List TApiShare) (hl : l.length ≤ 255) (a : Int) : ∀ (m i k : Nat), i + m = l.length → m < k →
    passkeyref37AtL10 l a k i = if chk l m i ≠ 0 then some ([], chk l m i) else passkeyref37AtJ2 l a
  | 0, i, k + 1, h, hk => by rw [passkeyref37AtL10, if_neg (by simp; omega), chk, if_neg (by simp)]
  | m + 1, i, k + 1, h, hk => by
    have e2 : w64 ((i : Int) + 1) = ((i + 1 : Nat) : Int) := by rw [w64_of (by omega) (by omega)]; omega
    rw [passkeyref37AtL10, if_pos (by simp; omega), ref_share l hl i (by omega), Option.bind_some]
    by_cases c : shareE l i = 0
    · rw [chk_good c, c, if_neg (by simp), e2]
      exact ref_first l hl a m (i + 1) k (by omega) (by omega)
    · rw [if_pos (by simpa using c), chk_bad rfl c, if_pos c]
theorem chk_zero (l : List TApiShare) : ∀ (m i : Nat), chk l m i = 0 → ∀ j, i ≤ j → j < i + m → shareE l j = 0
  | 0, i, _, j, h1, h2 => by omega
  | m + 1, i, h, j, h1, h2 => by
    rw [chk] at h
    by_cases c : shareE l i = 0
    · rw [c, if_neg (by simp)] at h
      by_cases e : j = i
      · rw [e]; exact c
      · exact chk_zero l m (i + 1) h j (by omega) (by omega)
    · rw [if_pos c] at h; exact absurd h c
theorem chk_ok (l : List TApiShare) (hn : 0 < l.length) (hl : l.length ≤ 255) (h : chk l l.length 0 = 0) : OkS l (sD l 0).length := by
  have hz := chk_zero l l.length 0 h
  have key : ∀ i, i < l.length → (1 ≤ sX l i ∧ sX l i ≤ 255) ∧ dup l i ≠ true ∧ (sD l i).length = (sD l 0).length ∧ (sD l i).length ≤ 64 := by
    intro i hi
    have h0 := hz i (by omega) (by omega)
    rw [shareE] at h0
    split at h0
    · exact absurd h0 (by decide)
    rename_i c1
    split at h0
    · exact absurd h0 (by decide)
    rename_i c2
    split at h0
    · exact absurd h0 (by decide)
    rename_i c3
    split at h0
    · exact absurd h0 (by decide)
    rename_i c4
    exact ⟨by omega, c2, by omega, by omega⟩
  refine ⟨hn, hl, fun i hi => (key i hi).1, ?_, fun i hi => (key i hi).2.2.1, (key 0 hn).2.2.2⟩
  intro i j hij hj e
  exact (key j hj).2.1 ((dup_iff l j).2 ⟨i, hij, e⟩)
theorem ref_L7 (q : List (BitVec 8) → Int → Option (List (BitVec 8) × Int)) (l : List TApiShare) (len : Nat) (ok : OkS l len) (i : Nat) (hi : i < l.length) (w : BitVec 8) (f : Nat → BitVec 8) : ∀ (m d k : Nat), d + m = len → m < k →
    passkeyref37AtL7 q l i w k ((List.range len).map fun e => if e < d then f e ^^^ gm w (dat l e i) else f e) d = passkeyref37AtJ5 q i ((List.range len).map fun e => f e ^^^ gm w (dat l e i))
  | 0, d, k + 1, h, hk => by
    rw [passkeyref37AtL7, if_neg (by simp; omega)]
    congr 1
    apply List.map_congr_left
    intro e he
    rw [if_pos (by have := List.mem_range.1 he; omega)]
  | m + 1, d, k + 1, h, hk => by
    have hd' : (l.getD (i : Int).toNat (TApiShare.mk (0 : Int) ([] : List (BitVec 8)))).Data.length = len := by rw [Int.toNat_natCast]; exact ok.dat i hi
    have h64 := ok.l64
    have e2 : w64 ((d : Int) + 1) = ((d + 1 : Nat) : Int) := by rw [w64_of (by omega) (by omega)]; omega
    rw [passkeyref37AtL7, if_pos (by simp; omega), asq_pos (by simp; omega), asq_pos (by omega), asq_pos (by omega), refMul_eq, Option.bind_some, asq_pos (by simp; omega), e2]
    simp only [Int.toNat_natCast, Nat.zero_add]
    rw [map_range_getD _ _ _ _ (by omega), map_range_set, if_neg (by omega), ← ref_L7 q l len ok i hi w f m (d + 1) k (by omega) (by omega)]
    congr 1
    apply List.map_congr_left
    intro e he
    by_cases h1 : e = d
    · subst h1; rw [if_pos rfl, if_pos (by omega)]; rfl
    · rw [if_neg h1]
      by_cases h2 : e < d
      · rw [if_pos h2, if_pos (by omega)]
      · rw [if_neg h2, if_neg (by omega)]
theorem ref_L8 (q : List (BitVec 8) → Int → Option (List (BitVec 8) × Int)) (l : List TApiShare) (len : Nat) (ok : OkS l len) (a : Int) (v : List (BitVec 8)) (i : Nat) (hi : i < l.length) : ∀ (m j k : Nat), j + m = l.length → m < k →
    passkeyref37AtL8 q l a v i k (wt (bx l) (BitVec.ofInt 8 a) i j) j = passkeyref37AtJ6 q l v i (wt (bx l) (BitVec.ofInt 8 a) i l.length)
  | 0, j, k + 1, h, hk => by rw [passkeyref37AtL8, if_neg (by simp; omega), show j = l.length by omega]
  | m + 1, j, k + 1, h, hk => by
    have e2 : w64 ((j : Int) + 1) = ((j + 1 : Nat) : Int) := by have := ok.short; rw [w64_of (by omega) (by omega)]; omega
    rw [passkeyref37AtL8, if_pos (by simp; omega)]
    by_cases e : j = i
    · subst e
      rw [if_neg (by simp), passkeyref37AtJ9, e2, ← ref_L8 q l len ok a v j hi m (j + 1) k (by omega) (by omega), wt, fac, if_pos rfl, gm_one]
    · rw [if_pos (by simp; omega), asq_pos (by omega)]
      simp only [lett_def, Int.toNat_natCast]
      rw [asq_pos (by omega), asq_pos (by omega)]
      simp only [refInverse_eq, refMul_eq, Option.bind_some]
      rw [passkeyref37AtJ9, e2, ← ref_L8 q l len ok a v i hi m (j + 1) k (by omega) (by omega), wt, fac, if_neg e]
      rfl
theorem ref_L4 (l : List TApiShare) (len : Nat) (ok : OkS l len) (a : Int) : ∀ (m i k : Nat), i + m = l.length → m < k →
    passkeyref37AtL4 l a k ((List.range len).map fun d => valN (bx l) (dat l d) (BitVec.ofInt 8 a) l.length i) i = some ((List.range len).map fun d => valN (bx l) (dat l d) (BitVec.ofInt 8 a) l.length l.length, 0)
  | 0, i, k + 1, h, hk => by rw [passkeyref37AtL4, if_neg (by simp; omega), show i = l.length by omega]; rfl
  | m + 1, i, k + 1, h, hk => by
    have e2 : w64 ((i : Int) + 1) = ((i + 1 : Nat) : Int) := by have := ok.short; rw [w64_of (by omega) (by omega)]; omega
    have h8 := ref_L8 (passkeyref37AtL4 l a k) l len ok a ((List.range len).map fun d => valN (bx l) (dat l d) (BitVec.ofInt 8 a) l.length i) i (by omega) l.length 0 FUEL (by omega) (by have := ok.short; simp only [FUEL]; omega)
    have h7 := ref_L7 (passkeyref37AtL4 l a k) l len ok i (by omega) (wt (bx l) (BitVec.ofInt 8 a) i l.length) (fun d => valN (bx l) (dat l d) (BitVec.ofInt 8 a) l.length i) len 0 FUEL (by omega) (by have := ok.l64; simp only [FUEL]; omega)
    simp only [Nat.not_lt_zero, if_false] at h7
    rw [passkeyref37AtL4, if_pos (by simp; omega)]
    refine Eq.trans h8 ?_
    rw [passkeyref37AtJ6]
    refine Eq.trans h7 ?_
    rw [passkeyref37AtJ5, e2, ← ref_L4 l len ok a m (i + 1) k (by omega) (by omega)]
    rfl
theorem J2_same (l : List TApiShare) (len : Nat) (ok : OkS l len) (a : Int) : ∃ r, sharingAtJ2 l a = some r ∧ passkeyref37AtJ2 l a = some r := by
  have hne := ok.ne
  have hsh := ok.short
  have h64 := ok.l64
  have hd0' : (l.getD (0 : Int).toNat (TApiShare.mk (0 : Int) ([] : List (BitVec 8)))).Data.length = len := ok.dat 0 ok.ne
  have e : List.replicate len 0#8 = (List.range len).map fun d => valN (bx l) (dat l d) (BitVec.ofInt 8 a) l.length 0 := by
    simp only [valN]
    rw [List.map_const']; simp
  refine ⟨((List.range len).map fun d => valN (bx l) (dat l d) (BitVec.ofInt 8 a) l.length l.length, 0), ?_, ?_⟩
  · rw [sharingAtJ2, asq_pos (by omega), asq_pos (by omega), hd0', Int.toNat_natCast, e]
    exact at_L4 l len ok a l.length 0 FUEL (by omega) (by simp only [FUEL]; omega)
  · rw [passkeyref37AtJ2, asq_pos (by omega), asq_pos (by omega), hd0', Int.toNat_natCast, e]
    exact ref_L4 l len ok a l.length 0 FUEL (by omega) (by simp only [FUEL]; omega)
theorem at_same (l : List TApiShare) (hl : l.length ≤ 255) (a : Int) : ∃ r, sharingAt l a = some r ∧ passkeyref37At l a = some r := by
  rw [sharingAt, passkeyref37At]
  by_cases c0 : ((l.length : Int) == (0 : Int)) = true
  · rw [if_pos c0, if_pos c0]; exact ⟨_, rfl, rfl⟩
  rw [if_neg c0, if_neg c0]
  have hne : l.length ≠ 0 := by intro h; rw [h] at c0; exact c0 rfl
  by_cases c1 : decide (a < 0) = true
  · rw [if_pos c1, if_pos c1, sharingAtJ1, passkeyref37AtJ1, if_pos rfl, if_pos rfl]; exact ⟨_, rfl, rfl⟩
  rw [if_neg c1, if_neg c1, sharingAtJ1, passkeyref37AtJ1]
  by_cases c2 : decide (255 < a) = true
  · rw [if_pos c2, if_pos c2]; exact ⟨_, rfl, rfl⟩
  rw [if_neg c2, if_neg c2]
  have h1 := at_first l hl a l.length 0 FUEL (List.replicate 256 false) (by omega) (by simp only [FUEL]; omega) List.length_replicate (by
    intro x
    constructor
    · intro hx
      simp only [List.getD_eq_getElem?_getD, List.getElem?_replicate] at hx
      split at hx <;> simp at hx
    · rintro ⟨j, hj, _⟩; omega)
  have h2 := ref_first l hl a l.length 0 FUEL (by omega) (by simp only [FUEL]; omega)
  rw [show (0 : Int) = ((0 : Nat) : Int) from rfl, h1, h2]
  by_cases c : chk l l.length 0 = 0
  · rw [if_neg (by simpa using c), if_neg (by simpa using c)]
    exact J2_same l _ (chk_ok l (by omega) hl c) a
  · rw [if_pos c, if_pos c]; exact ⟨_, rfl, rfl⟩
theorem law_at (l : List TApiShare) (hl : l.length ≤ 255) (a : Int) : passkeylaw37at l a = some true := by
  obtain ⟨r, h1, h2⟩ := at_same l hl a
  obtain ⟨s, h3, h4⟩ := at_same l hl 0
  rw [passkeylaw37at, h1, Option.bind_some, h2, Option.bind_some, sharingJoin, h3, Option.bind_some, Option.bind_some, passkeyref37Join, h4]
  simp
/-- the deck: its cards, and where it stands -/
structure DOk (d : TPasskeycastDeck) : Prop where
  short : d.l.length ≤ 140737488355328
  lo : 0 ≤ d.atX
  hi : d.atX ≤ 140737488355328
theorem next_tot (d : TPasskeycastDeck) (h : DOk d) (n : Int) (h0 : 0 < n) (h1 : n < 9223372036854775808) : ∃ x e, passkeycastDeckNext d n = some (x, e) ∧ 0 ≤ x ∧ x < n ∧ DOk e := by
  have hs := h.short
  have hlo := h.lo
  have hhi := h.hi
  rw [passkeycastDeckNext]
  by_cases c : (d.l.length : Int) ≤ d.atX
  · rw [if_pos (decide_eq_true c)]; exact ⟨0, d, rfl, by omega, h0, h⟩
  · have e1 : w64 (d.atX + 1) = d.atX + 1 := w64_of (by omega) (by omega)
    have e2 : w64 (d.atX + 1 - 1) = d.atX := by rw [w64_of (by omega) (by omega)]; omega
    rw [if_neg (by simpa using c), e1, e2, asq_pos (by omega)]
    obtain ⟨x, hx, hx0, hx1⟩ := mod_tot (d.l.getD d.atX.toNat 0) n h0 h1
    rw [hx]
    exact ⟨x, _, rfl, hx0, hx1, ⟨hs, by show 0 ≤ d.atX + 1; omega, by show d.atX + 1 ≤ _; omega⟩⟩
theorem values_J3 (l : List TApiShare) (hl : l.length ≤ 255) (a : Int) (m : List TApiShare) (hm : m.length ≤ 255) : passkeylaw37SharingValuesJ3 l a m = some true := by
  obtain ⟨x, hx, _, _⟩ := mod_tot a 258 (by omega) (by omega)
  rw [passkeylaw37SharingValuesJ3, law_at l hl, Option.bind_some, if_pos rfl, hx, Option.bind_some, law_at m hm, Option.bind_some, if_pos rfl, law_at m hm, Option.bind_some, if_pos rfl, awake_eq]; rfl
theorem values_J2 (l : List TApiShare) (hl : l.length ≤ 255) (a : Int) (d : TPasskeycastDeck) (hd : DOk d) (m : List TApiShare) (h0 : 0 < m.length) (hm : m.length ≤ 255) (h3 : ∀ i, i < m.length → (sD m i).length = 3) : passkeylaw37SharingValuesJ2 l a d.l d.atX m = some true := by
  have ed : ∀ e : TPasskeycastDeck, TPasskeycastDeck.mk e.l e.atX = e := fun e => rfl
  rw [passkeylaw37SharingValuesJ2, ed]
  obtain ⟨x, e, hx, hx0, hx1, he⟩ := next_tot d hd 6 (by omega) (by omega)
  rw [hx, Option.bind_some]
  simp only [ed]
  split
  · obtain ⟨y, f, hy, hy0, hy1, hf⟩ := next_tot e he m.length (by omega) (by omega)
    rw [hy, Option.bind_some]
    simp only [ed]
    obtain ⟨z, g, hz, hz0, hz1, hg⟩ := next_tot f hf 3 (by omega) (by omega)
    rw [hz, Option.bind_some, asq_pos (by simp only [List.length_cons, List.length_nil]; omega), asq_pos (by omega)]
    exact values_J3 l hl a _ (by rw [List.length_set]; exact hm)
  split
  · obtain ⟨y, f, hy, hy0, hy1, hf⟩ := next_tot e he m.length (by omega) (by omega)
    rw [hy, Option.bind_some]
    simp only [ed]
    obtain ⟨z, g, hz, hz0, hz1, hg⟩ := next_tot f hf 4 (by omega) (by omega)
    have hlen : (m.getD (0 + y.toNat) (TApiShare.mk (0 : Int) ([] : List (BitVec 8)))).Data.length = 3 := by
      rw [Nat.zero_add]; exact h3 y.toNat (by omega)
    rw [asq_pos (by omega), hz, Option.bind_some, asq_pos (by rw [hlen]; omega), lett_def, asq_pos (by omega)]
    exact values_J3 l hl a _ (by rw [List.length_set]; exact hm)
  split
  · obtain ⟨y, hy, _⟩ := bytes_tot 1 65
    rw [hy, Option.bind_some, asq_pos (by omega)]
    exact values_J3 l hl a _ (by rw [List.length_set]; exact hm)
  · exact values_J3 l hl a _ hm
theorem values_L4 (l : List TApiShare) (hl : l.length ≤ 255) (a : Int) : ∀ (n k : Nat) (d : TPasskeycastDeck) (m : List TApiShare), DOk d → n ≤ 200 → n < k → 0 < n + m.length → n + m.length ≤ 255 → (∀ i, i < m.length → (sD m i).length = 3) →
    passkeylaw37SharingValuesL4 l a k d.l d.atX m n = some true
  | 0, k + 1, d, m, hd, hn, hk, h0, h1, h3 => by
    rw [passkeylaw37SharingValuesL4, if_neg (by simp)]
    exact values_J2 l hl a d hd m (by omega) (by omega) h3
  | n + 1, k + 1, d, m, hd, hn, hk, h0, h1, h3 => by
    have ed : ∀ e : TPasskeycastDeck, TPasskeycastDeck.mk e.l e.atX = e := fun e => rfl
    rw [passkeylaw37SharingValuesL4, if_pos (by rw [decide_eq_true_eq]; omega), ed]
    obtain ⟨x1, d1, hx1, a1, b1, hd1⟩ := next_tot d hd 255 (by omega) (by omega)
    rw [hx1, Option.bind_some]
    simp only [ed]
    obtain ⟨x2, d2, hx2, a2, b2, hd2⟩ := next_tot d1 hd1 6 (by omega) (by omega)
    rw [hx2, Option.bind_some]
    simp only [ed]
    obtain ⟨x3, d3, hx3, a3, b3, hd3⟩ := next_tot d2 hd2 4 (by omega) (by omega)
    rw [hx3, Option.bind_some]
    simp only [ed]
    obtain ⟨x4, d4, hx4, a4, b4, hd4⟩ := next_tot d3 hd3 9 (by omega) (by omega)
    rw [asq_pos (by simp only [List.length_cons, List.length_nil]; omega), hx4, Option.bind_some]
    obtain ⟨y, hy, hyl⟩ := bytes_tot x4 3
    have e3 : w64 (((n + 1 : Nat) : Int) - 1) = (n : Int) := by rw [w64_of (by omega) (by omega)]; omega
    rw [hy, Option.bind_some, asq_pos (by simp; omega), e3]
    refine values_L4 l hl a n k d4 _ hd4 (by omega) (by omega) (by simp; omega) (by simp; omega) ?_
    intro i hi
    rw [sD]
    by_cases c : i < m.length
    · rw [List.getD_eq_getElem?_getD, List.getElem?_append_left c, ← List.getD_eq_getElem?_getD]; exact h3 i c
    · have : i = m.length := by simp at hi; omega
      rw [this, List.getD_eq_getElem?_getD, List.getElem?_append_right (by omega)]
      simp only [Nat.sub_self, List.getElem?_cons_zero, Option.getD_some]
      rw [hyl]; decide
theorem values_J1 (l : List TApiShare) (hl : l.length ≤ 255) (a : Int) (n : List Int) (hn : n.length ≤ 140737488355328) : passkeylaw37SharingValuesJ1 l a n = some true := by
  have ed : ∀ e : TPasskeycastDeck, TPasskeycastDeck.mk e.l e.atX = e := fun e => rfl
  rw [passkeylaw37SharingValuesJ1, passkeycastNew, Option.bind_some]
  obtain ⟨x, d, hx, h0, h1, hd⟩ := next_tot (TPasskeycastDeck.mk n 0) ⟨hn, by show (0 : Int) ≤ 0; omega, by show (0 : Int) ≤ _; omega⟩ 6 (by omega) (by omega)
  rw [hx, Option.bind_some]
  obtain ⟨y, rfl⟩ := Int.eq_ofNat_of_zero_le h0
  have e : w64 (1 + (y : Int)) = ((y + 1 : Nat) : Int) := by rw [w64_of (by omega) (by omega)]; omega
  rw [e]
  exact values_L4 l hl a (y + 1) FUEL d [] hd (by omega) (by simp only [FUEL]; omega) (by omega) (by simp; omega) (fun i hi => by simp at hi)
theorem values_L5 (l : List TApiShare) (hl : l.length ≤ 255) (a : Int) (n : List Int) (hn : n.length ≤ 140737488355328) : ∀ (m i k : Nat), i + m = l.length → m < k → passkeylaw37SharingValuesL5 l a n k i = some true
  | 0, i, k + 1, h, hk => by rw [passkeylaw37SharingValuesL5, if_neg (by simp; omega)]; exact values_J1 l hl a n hn
  | m + 1, i, k + 1, h, hk => by
    have e2 : w64 ((i : Int) + 1) = ((i + 1 : Nat) : Int) := by rw [w64_of (by omega) (by omega)]; omega
    rw [passkeylaw37SharingValuesL5, if_pos (by simp; omega), asq_pos (by omega)]
    split
    · rw [awake_eq]; rfl
    · rw [e2]; exact values_L5 l hl a n hn m (i + 1) k (by omega) (by omega)
theorem sharingValues_holds (l : List TApiShare) (a : Int) (n : List Int) (h1 : okL okTApiShare l) (h2 : -9223372036854775808 ≤ a ∧ a ≤ 9223372036854775807) (h3 : n.length ≤ 140737488355328) : passkeylaw37SharingValues l a n = some true := by
  rw [passkeylaw37SharingValues]
  split
  · rw [awake_eq]; rfl
  · rename_i h
    rw [decide_eq_true_eq] at h
    exact values_L5 l (by omega) a n h3 l.length 0 FUEL (by omega) (by simp only [FUEL]; omega)
end Go.Proofs.Ty
