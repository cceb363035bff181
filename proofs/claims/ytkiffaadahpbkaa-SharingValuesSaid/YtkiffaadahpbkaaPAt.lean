/- What the program's At comes to, on shares that are in order. -/
import Derived.Test.YtkiffaadahpbkaaPLag
set_option linter.unusedSimpArgs false
set_option linter.unusedVariables false
namespace Go.Proofs.Ty
open Go Go.RW
structure OkS (l : List TApiShare) (len : Nat) : Prop where
  ne : 0 < l.length
  short : l.length ≤ 255
  rng : ∀ i, i < l.length → 1 ≤ (l.getD i zS).X ∧ (l.getD i zS).X ≤ 255
  dis : ∀ i j, i < j → j < l.length → (l.getD i zS).X ≠ (l.getD j zS).X
  dat : ∀ i, i < l.length → (l.getD i zS).Data.length = len
  l64 : len ≤ 64
def bx (l : List TApiShare) (i : Nat) : BitVec 8 := BitVec.ofInt 8 (l.getD i zS).X
def dat (l : List TApiShare) (d i : Nat) : BitVec 8 := (l.getD i zS).Data.getD d 0#8
theorem seen_set (v : List Bool) (n x : Nat) (h : (v.set n true).getD x false = true) : x = n ∨ v.getD x false = true := by
  simp only [List.getD_eq_getElem?_getD, List.getElem?_set] at *
  by_cases e : n = x
  · exact Or.inl e.symm
  · rw [if_neg e] at h; exact Or.inr h
theorem at_L10 (l : List TApiShare) (len : Nat) (ok : OkS l len) (a : Int) : ∀ (m i k : Nat) (seen : List Bool), i + m = l.length → m < k → seen.length = 256 → (∀ x, seen.getD x false = true → ∃ j, j < i ∧ (l.getD j zS).X = (x : Int)) →
    sharingAtL10 l a k seen i = sharingAtJ2 l a
  | 0, i, k + 1, seen, h, hk, hl, hs => by rw [sharingAtL10, if_neg (by simp; omega)]
  | m + 1, i, k + 1, seen, h, hk, hl, hs => by
    have e2 : w64 ((i : Int) + 1) = ((i + 1 : Nat) : Int) := by have := ok.short; rw [w64_of (by omega) (by omega)]; omega
    have hi : i < l.length := by omega
    have hr := ok.rng i hi
    have hd := ok.dat i hi
    have hd0 := ok.dat 0 ok.ne
    have h64 := ok.l64
    have hne := ok.ne
    obtain ⟨x, hx⟩ := Int.eq_ofNat_of_zero_le (show 0 ≤ (l.getD i zS).X by omega)
    have hx' : (l.getD (i : Int).toNat (TApiShare.mk (0 : Int) ([] : List (BitVec 8)))).X = (x : Int) := by rw [Int.toNat_natCast]; exact hx
    have hd' : (l.getD (i : Int).toNat (TApiShare.mk (0 : Int) ([] : List (BitVec 8)))).Data.length = len := by rw [Int.toNat_natCast]; exact hd
    have hd0' : (l.getD (0 : Int).toNat (TApiShare.mk (0 : Int) ([] : List (BitVec 8)))).Data.length = len := hd0
    have hns : seen.getD (l.getD (i : Int).toNat (TApiShare.mk (0 : Int) ([] : List (BitVec 8)))).X.toNat false = false := by
      cases hb : seen.getD (l.getD (i : Int).toNat (TApiShare.mk (0 : Int) ([] : List (BitVec 8)))).X.toNat false with
      | false => rfl
      | true =>
        obtain ⟨j, hj, e⟩ := hs _ hb
        exact absurd (by rw [e, hx]; omega) (ok.dis j i hj hi)
    rw [sharingAtL10, if_pos (by simp; omega), asq_pos (by omega), if_neg (by simp only [decide_eq_true_eq]; omega), sharingAtJ11, decide_eq_false (by omega), if_neg (by simp), asq_pos (by omega), asq_pos (by omega), if_neg (by rw [hns]; simp), asq_pos (by omega), if_neg (by rw [hd', hd0']; simp), if_neg (by simp only [decide_eq_true_eq]; omega), asq_pos (by omega), asq_pos (by omega), e2, hx', Int.toNat_natCast]
    refine at_L10 l len ok a m (i + 1) k _ (by omega) (by omega) (by simpa using hl) ?_
    intro y hy
    rcases seen_set _ _ _ hy with h1 | h1
    · exact ⟨i, by omega, by rw [hx, h1]⟩
    · obtain ⟨j, hj, e⟩ := hs y h1
      exact ⟨j, by omega, e⟩
theorem map_range_set {α : Type} (F : Nat → α) (n d : Nat) (y : α) : ((List.range n).map F).set d y = (List.range n).map fun e => if e = d then y else F e := by
  apply List.ext_getElem
  · simp
  · intro i h1 h2
    simp only [List.getElem_set, List.getElem_map, List.getElem_range]
    by_cases h : d = i
    · rw [if_pos h, if_pos h.symm]
    · rw [if_neg h, if_neg (fun e => h e.symm)]
theorem map_range_getD {α : Type} (F : Nat → α) (n d : Nat) (z : α) (h : d < n) : ((List.range n).map F).getD d z = F d := by
  simp [List.getD_eq_getElem?_getD, h]
theorem at_L7 (q : List (BitVec 8) → Int → Option (List (BitVec 8) × Int)) (l : List TApiShare) (len : Nat) (ok : OkS l len) (i : Nat) (hi : i < l.length) (w : BitVec 8) (f : Nat → BitVec 8) : ∀ (m d k : Nat), d + m = len → m < k →
    sharingAtL7 q l i w k ((List.range len).map fun e => if e < d then f e ^^^ gm w (dat l e i) else f e) d = sharingAtJ5 q i ((List.range len).map fun e => f e ^^^ gm w (dat l e i))
  | 0, d, k + 1, h, hk => by
    have hd' : (l.getD (i : Int).toNat (TApiShare.mk (0 : Int) ([] : List (BitVec 8)))).Data.length = len := by rw [Int.toNat_natCast]; exact ok.dat i hi
    rw [sharingAtL7, if_neg (by simp only [decide_eq_true_eq]; omega)]
    congr 1
    apply List.map_congr_left
    intro e he
    rw [if_pos (by have := List.mem_range.1 he; omega)]
  | m + 1, d, k + 1, h, hk => by
    have hd' : (l.getD (i : Int).toNat (TApiShare.mk (0 : Int) ([] : List (BitVec 8)))).Data.length = len := by rw [Int.toNat_natCast]; exact ok.dat i hi
    have h64 := ok.l64
    have e2 : w64 ((d : Int) + 1) = ((d + 1 : Nat) : Int) := by rw [w64_of (by omega) (by omega)]; omega
    rw [sharingAtL7, if_pos (decide_eq_true (by omega)), asq_pos (by omega), asq_pos (by simp; omega), mul_eq, Option.bind_some, asq_pos (by simp; omega), e2]
    simp only [Int.toNat_natCast, Nat.zero_add]
    rw [map_range_getD _ _ _ _ (by omega), map_range_set, if_neg (by omega), ← at_L7 q l len ok i hi w f m (d + 1) k (by omega) (by omega)]
    congr 1
    apply List.map_congr_left
    intro e he
    by_cases h1 : e = d
    · subst h1; rw [if_pos rfl, if_pos (by omega)]; rfl
    · rw [if_neg h1]
      by_cases h2 : e < d
      · rw [if_pos h2, if_pos (by omega)]
      · rw [if_neg h2, if_neg (by omega)]
theorem at_L8 (q : List (BitVec 8) → Int → Option (List (BitVec 8) × Int)) (l : List TApiShare) (len : Nat) (ok : OkS l len) (a : Int) (v : List (BitVec 8)) (i : Nat) (hi : i < l.length) : ∀ (m j k : Nat), j + m = l.length → m < k →
    sharingAtL8 q l a v i k (wt (bx l) (BitVec.ofInt 8 a) i j) j = sharingAtJ6 q l v i (wt (bx l) (BitVec.ofInt 8 a) i l.length)
  | 0, j, k + 1, h, hk => by rw [sharingAtL8, if_neg (by simp; omega), show j = l.length by omega]
  | m + 1, j, k + 1, h, hk => by
    have e2 : w64 ((j : Int) + 1) = ((j + 1 : Nat) : Int) := by have := ok.short; rw [w64_of (by omega) (by omega)]; omega
    rw [sharingAtL8, if_pos (by simp; omega), asq_pos (by omega)]
    by_cases e : j = i
    · subst e
      rw [if_neg (by simp), sharingAtJ9, e2, ← at_L8 q l len ok a v j hi m (j + 1) k (by omega) (by omega), wt, fac, if_pos rfl, gm_one]
    · rw [if_pos (by simp; omega)]
      simp only [lett_def, Int.toNat_natCast, inverse_eq, mul_eq, Option.bind_some]
      rw [sharingAtJ9, e2, ← at_L8 q l len ok a v i hi m (j + 1) k (by omega) (by omega), wt, fac, if_neg e]
      rfl
theorem at_L4 (l : List TApiShare) (len : Nat) (ok : OkS l len) (a : Int) : ∀ (m i k : Nat), i + m = l.length → m < k →
    sharingAtL4 l a k ((List.range len).map fun d => valN (bx l) (dat l d) (BitVec.ofInt 8 a) l.length i) i = some ((List.range len).map fun d => valN (bx l) (dat l d) (BitVec.ofInt 8 a) l.length l.length, 0)
  | 0, i, k + 1, h, hk => by rw [sharingAtL4, if_neg (by simp; omega), show i = l.length by omega]; rfl
  | m + 1, i, k + 1, h, hk => by
    have e2 : w64 ((i : Int) + 1) = ((i + 1 : Nat) : Int) := by have := ok.short; rw [w64_of (by omega) (by omega)]; omega
    have h8 := at_L8 (sharingAtL4 l a k) l len ok a ((List.range len).map fun d => valN (bx l) (dat l d) (BitVec.ofInt 8 a) l.length i) i (by omega) l.length 0 FUEL (by omega) (by have := ok.short; simp only [FUEL]; omega)
    have h7 := at_L7 (sharingAtL4 l a k) l len ok i (by omega) (wt (bx l) (BitVec.ofInt 8 a) i l.length) (fun d => valN (bx l) (dat l d) (BitVec.ofInt 8 a) l.length i) len 0 FUEL (by omega) (by have := ok.l64; simp only [FUEL]; omega)
    simp only [Nat.not_lt_zero, if_false] at h7
    rw [sharingAtL4, if_pos (by simp; omega), asq_pos (by omega)]
    refine Eq.trans h8 ?_
    rw [sharingAtJ6]
    refine Eq.trans h7 ?_
    rw [sharingAtJ5, e2, ← at_L4 l len ok a m (i + 1) k (by omega) (by omega)]
    rfl
theorem at_eq (l : List TApiShare) (len : Nat) (ok : OkS l len) (a : Int) (h0 : 0 ≤ a) (h1 : a ≤ 255) : sharingAt l a = some ((List.range len).map fun d => valN (bx l) (dat l d) (BitVec.ofInt 8 a) l.length l.length, 0) := by
  have hne := ok.ne
  have hsh := ok.short
  have h64 := ok.l64
  have hd0 := ok.dat 0 ok.ne
  rw [sharingAt, if_neg (by simp only [beq_iff_eq]; omega), if_neg (by simp only [decide_eq_true_eq]; omega), decide_eq_false (by omega), sharingAtJ1, if_neg (by simp)]
  have h10 := at_L10 l len ok a l.length 0 FUEL (List.replicate 256 false) (by omega) (by simp only [FUEL]; omega) List.length_replicate (by
    intro x hx
    simp only [List.getD_eq_getElem?_getD, List.getElem?_replicate] at hx
    split at hx <;> simp at hx)
  refine Eq.trans h10 ?_
  have hd0' : (l.getD (0 : Int).toNat (TApiShare.mk (0 : Int) ([] : List (BitVec 8)))).Data.length = len := hd0
  rw [sharingAtJ2, asq_pos (by omega), asq_pos (by omega), hd0', Int.toNat_natCast]
  have h4 := at_L4 l len ok a l.length 0 FUEL (by omega) (by simp only [FUEL]; omega)
  have e : List.replicate len 0#8 = (List.range len).map fun d => valN (bx l) (dat l d) (BitVec.ofInt 8 a) l.length 0 := by
    simp only [valN]
    rw [List.map_const']; simp
  rw [e]
  exact h4
end Go.Proofs.Ty
