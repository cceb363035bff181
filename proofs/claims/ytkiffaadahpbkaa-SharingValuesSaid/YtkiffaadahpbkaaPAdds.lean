/- Shares add. -/
import Derived.Test.YtkiffaadahpbkaaPSplit
set_option linter.unusedSimpArgs false
set_option linter.unusedVariables false
namespace Go.Proofs.Ty
open Go Go.RW
def xorL (xs ys : List (BitVec 8)) : List (BitVec 8) := (List.range xs.length).map fun j => xs.getD j 0#8 ^^^ ys.getD j 0#8
theorem sum_loop (xs ys : List (BitVec 8)) (h : xs.length = ys.length) (hl : xs.length ≤ 1000000) : ∀ (m i k : Nat), i + m = xs.length → m < k →
    passkeylaw37sumL2 xs ys k ((List.range i).map (fun j => xs.getD j 0#8 ^^^ ys.getD j 0#8) ++ List.replicate m 0#8) i = some (xorL xs ys)
  | 0, i, k + 1, hi, hk => by
    rw [passkeylaw37sumL2, if_neg (by simp; omega), show i = xs.length by omega, List.replicate_zero, List.append_nil]; rfl
  | m + 1, i, k + 1, hi, hk => by
    have e2 : w64 ((i : Int) + 1) = ((i + 1 : Nat) : Int) := by rw [w64_of (by omega) (by omega)]; omega
    rw [passkeylaw37sumL2, if_pos (by simp; omega), asq_pos (by omega), asq_pos (by omega), asq_pos (by simp; omega), e2, ← sum_loop xs ys h hl m (i + 1) k (by omega) (by omega)]
    congr 1
    rw [Int.toNat_natCast, Nat.zero_add, List.set_append_right _ _ (by simp), List.length_map, List.length_range, Nat.sub_self, List.replicate_succ, List.set_cons_zero, List.range_succ, List.map_append, List.append_assoc]
    rfl
theorem sum_eq (xs ys : List (BitVec 8)) (h : xs.length = ys.length) (hl : xs.length ≤ 1000000) : passkeylaw37sum xs ys = some (xorL xs ys) := by
  rw [passkeylaw37sum, asq_pos (by omega), Int.toNat_natCast]
  have := sum_loop xs ys h hl xs.length 0 FUEL (by omega) (by simp only [FUEL]; omega)
  rw [List.range_zero, List.map_nil, List.nil_append] at this
  exact this
theorem xorL_length (xs ys : List (BitVec 8)) : (xorL xs ys).length = xs.length := by simp [xorL]
theorem xorL_getD (xs ys : List (BitVec 8)) (h : xs.length = ys.length) (j : Nat) : (xorL xs ys).getD j 0#8 = xs.getD j 0#8 ^^^ ys.getD j 0#8 := by
  by_cases hj : j < xs.length
  · simp [xorL, List.getD_eq_getElem?_getD, hj]
  · simp only [List.getD_eq_getElem?_getD]
    rw [List.getElem?_eq_none (by rw [xorL_length]; omega), List.getElem?_eq_none (by omega), List.getElem?_eq_none (by omega)]
    simp
theorem poly_xor (c d : Nat → BitVec 8) (x : BitVec 8) : ∀ m, poly (fun k => c k ^^^ d k) x m = poly c x m ^^^ poly d x m
  | 0 => by simp [poly]
  | m + 1 => by
    simp only [poly]
    rw [poly_xor c d x m, xor_gm, xor4]
theorem shareB_xor (s s' co co' : List (BitVec 8)) (hs : s.length = s'.length) (hc : co.length = co'.length) (t : Nat) (x : BitVec 8) (j : Nat) : shareB (xorL s s') (xorL co co') t x j = shareB s co t x j ^^^ shareB s' co' t x j := by
  unfold shareB
  rw [xorL_getD s s' hs, xorL_length, ← hs, xor4, ← poly_xor]
  congr 2
  funext k
  exact xorL_getD co co' hc _
theorem shareD (s co : List (BitVec 8)) (t x : Nat) : (shareAt s co t x).Data.length = s.length := by simp [shareAt]
theorem share_xor (s s' co co' : List (BitVec 8)) (hs : s.length = s'.length) (hc : co.length = co'.length) (t x : Nat) : xorL (shareAt s co t x).Data (shareAt s' co' t x).Data = (shareAt (xorL s s') (xorL co co') t x).Data := by
  apply List.ext_getElem
  · rw [xorL_length, shareD, shareD, xorL_length]
  · intro j h1 h2
    rw [shareD, xorL_length] at h2
    have h3 := xorL_getD (shareAt s co t x).Data (shareAt s' co' t x).Data (by rw [shareD, shareD, hs]) j
    rw [List.getD_eq_getElem?_getD, List.getElem?_eq_getElem h1] at h3
    refine Eq.trans h3 ?_
    have g : ∀ (s co : List (BitVec 8)) (h : j < s.length), (shareAt s co t x).Data.getD j 0#8 = shareB s co t (BitVec.ofInt 8 x) j := by
      intro s co h
      simp [shareAt, List.getD_eq_getElem?_getD, h]
    rw [g s co h2, g s' co' (by omega), ← shareB_xor s s' co co' hs hc]
    simp [shareAt]
theorem shares_getD (s co : List (BitVec 8)) (t n i : Nat) (h : i < n) : (shares s co t n).getD i zS = shareAt s co t (i + 1) := by
  simp [shares, List.getD_eq_getElem?_getD, h]
theorem adds_loop (a0 s' co co' : List (BitVec 8)) (t : Nat) (hs : a0.length = s'.length) (hc : co.length = co'.length) (hl : a0.length ≤ 100) : ∀ (m i k : Nat), i + m = 6 → m < k →
    passkeylaw37SharingAddsL4 a0 (shares a0 co t 6, 0) (shares s' co' t 6, 0) (shares (xorL a0 s') (xorL co co') t 6, 0) k i = some true
  | 0, i, k + 1, h, hk => by
    rw [passkeylaw37SharingAddsL4, if_neg (by simp; omega), passkeylaw37SharingAddsJ3, awake_eq]; rfl
  | m + 1, i, k + 1, h, hk => by
    have e2 : w64 ((i : Int) + 1) = ((i + 1 : Nat) : Int) := by rw [w64_of (by omega) (by omega)]; omega
    have g : ∀ s co : List (BitVec 8), (shares s co t 6).getD (0 + (i : Int).toNat) (TApiShare.mk (0 : Int) ([] : List (BitVec 8))) = shareAt s co t (i + 1) := by
      intro s co
      rw [Int.toNat_natCast, Nat.zero_add]
      exact shares_getD s co t 6 i (by omega)
    have hlen : ∀ s co : List (BitVec 8), 0 ≤ (i : Int) ∧ (i : Int) < ((shares s co t 6).length : Int) := by intro s co; simp [shares]; omega
    rw [passkeylaw37SharingAddsL4, if_pos (by simp; omega)]
    simp only [g]
    rw [asq_pos (hlen _ _), shareD, if_neg (by simp), asq_pos (hlen _ _), shareD, if_neg (by simp; omega), asq_pos (hlen _ _), asq_pos (hlen _ _), sum_eq _ _ (by rw [shareD, shareD, hs]) (by rw [shareD]; omega), Option.bind_some, asq_pos (hlen _ _), share_xor a0 s' co co' hs hc, passkeylaw37SharingAddsJ5, if_neg (by simp), e2]
    exact adds_loop a0 s' co co' t hs hc hl m (i + 1) k (by omega) (by omega)
theorem split_ok (s co : List (BitVec 8)) (t n : Nat) (h1 : s.length ≤ 64) (h2 : 1 ≤ t) (h3 : t ≤ n) (h4 : n ≤ 255) (h5 : (t - 1) * s.length ≤ co.length) : sharingSplit s co t n = some (shares s co t n, 0) := by
  have e4 : ((t : Int) - 1) * (s.length : Int) = (((t - 1) * s.length : Nat) : Int) := by
    have : ((t : Int) - 1) = ((t - 1 : Nat) : Int) := by omega
    rw [this]; omega
  rw [split_eq, splitOut, if_neg (by omega), if_neg (by omega), e4, if_neg (by omega)]
  simp
theorem sharingAdds_holds (a0 a1 a2 a3 : List (BitVec 8)) (a4 : BitVec 8) (_ : a0.length ≤ 140737488351232) (_ : a1.length ≤ 140737488351232) (_ : a2.length ≤ 140737488351232) (_ : a3.length ≤ 140737488351232) : passkeylaw37SharingAdds a0 a1 a2 a3 a4 = some true := by
  have hT : passkeylaw37SharingAddsJ1 a0 a1 a2 a3 a4 true = some true := by
    rw [passkeylaw37SharingAddsJ1, if_pos rfl, awake_eq]; rfl
  obtain ⟨u, hu⟩ : ∃ u, (a4 % 5#8).toNat = u := ⟨_, rfl⟩
  have hu5 : u < 5 := by rw [← hu, BitVec.toNat_umod]; exact Nat.mod_lt _ (by decide)
  have e1 : w64 (1 + (u : Int)) = ((u + 1 : Nat) : Int) := by rw [w64_of (by omega) (by omega)]; omega
  have e2 : w64 (((u + 1 : Nat) : Int) - 1) = (u : Int) := by rw [w64_of (by omega) (by omega)]; omega
  rw [passkeylaw37SharingAdds, hu, e1, lett_def, e2]
  split
  · exact hT
  rename_i h1
  split
  · exact hT
  rename_i h2
  split
  · exact hT
  rename_i h3
  have h1' : a0.length = a1.length := by simp at h1; omega
  have h2' : a2.length = a3.length := by simp at h2; omega
  have h3' : a0.length ≤ 12 := by simp at h3; omega
  have hb : u * a0.length ≤ 5 * 12 := Nat.mul_le_mul (by omega) (by omega)
  have e3 : (u : Int) * (a0.length : Int) = ((u * a0.length : Nat) : Int) := by omega
  rw [e3, w64_of (by omega) (by omega)]
  split
  · exact hT
  rename_i h4
  have h4' : u * a0.length ≤ a2.length := by simp only [decide_eq_true_eq] at h4; omega
  by_cases h5 : (200 : Int) < (a2.length : Int)
  · rw [decide_eq_true h5]; exact hT
  rw [decide_eq_false h5, passkeylaw37SharingAddsJ1, if_neg (by simp), hu, e1]
  have k1 := split_ok a0 a2 (u + 1) 6 (by omega) (by omega) (by omega) (by omega) (by rw [Nat.add_sub_cancel]; exact h4')
  have k2 := split_ok a1 a3 (u + 1) 6 (by omega) (by omega) (by omega) (by omega) (by rw [Nat.add_sub_cancel, ← h1', ← h2']; exact h4')
  have k3 := split_ok (xorL a0 a1) (xorL a2 a3) (u + 1) 6 (by rw [xorL_length]; omega) (by omega) (by omega) (by omega) (by rw [Nat.add_sub_cancel, xorL_length, xorL_length]; exact h4')
  rw [show ((6 : Nat) : Int) = 6 from rfl] at k1 k2 k3
  rw [k1, Option.bind_some, k2, Option.bind_some, sum_eq a0 a1 h1' (by omega), Option.bind_some, sum_eq a2 a3 h2' (by omega), Option.bind_some, k3, Option.bind_some]
  have hlen : ∀ s co : List (BitVec 8), (shares s co (u + 1) 6).length = 6 := by intro s co; simp [shares]
  simp only [hlen]
  rw [if_neg (by simp), if_neg (by simp), if_neg (by simp), if_neg (by simp), if_neg (by simp), passkeylaw37SharingAddsJ2, if_neg (by simp)]
  exact adds_loop a0 a1 a2 a3 (u + 1) h1' h2' (by omega) 6 0 FUEL (by omega) (by simp only [FUEL]; omega)
end Go.Proofs.Ty
