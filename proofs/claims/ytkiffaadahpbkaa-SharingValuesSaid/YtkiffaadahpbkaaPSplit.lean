/- Shares: both programs split alike. -/
import Derived.Test.YtkiffaadahpbkaaPField
import Derived.Test.YtkiffaadahpbkaaPBytes
set_option linter.unusedSimpArgs false
set_option linter.unusedVariables false
namespace Go.Proofs.Ty
open Go Go.RW
abbrev zS : TApiShare := TApiShare.mk (0 : Int) ([] : List (BitVec 8))
/-- Sum of c(k-1) x^k for k = 1 .. m. -/
def poly (c : Nat → BitVec 8) (x : BitVec 8) : Nat → BitVec 8
  | 0 => 0#8
  | m + 1 => poly c x m ^^^ gm (c m) (gp x (m + 1))
def cof (co : List (BitVec 8)) (n j : Nat) (k : Nat) : BitVec 8 := co.getD (k * n + j) 0#8
def shareB (s co : List (BitVec 8)) (t : Nat) (x : BitVec 8) (j : Nat) : BitVec 8 := s.getD j 0#8 ^^^ poly (cof co s.length j) x (t - 1)
def shareAt (s co : List (BitVec 8)) (t x : Nat) : TApiShare := ⟨x, (List.range s.length).map (shareB s co t (BitVec.ofInt 8 x))⟩
def shares (s co : List (BitVec 8)) (t m : Nat) : List TApiShare := (List.range m).map fun i => shareAt s co t (i + 1)
def splitOut (s co : List (BitVec 8)) (t n : Int) : List TApiShare × Int :=
  if 64 < s.length then ([], 8) else if t < 1 ∨ n < t ∨ 255 < n then ([], 9) else if (co.length : Int) < (t - 1) * s.length then ([], 1) else (shares s co t.toNat n.toNat, 0)
/-! ### the reference's -/
theorem idx_of {i n j : Nat} (h1 : i ≤ 255) (h2 : n ≤ 64) (h3 : j < n) : w64 ((w64 ((i : Int) * (n : Int))) + (j : Int)) = ((i * n + j : Nat) : Int) := by
  have : i * n ≤ 255 * 64 := Nat.mul_le_mul h1 h2
  have e : (i : Int) * (n : Int) = ((i * n : Nat) : Int) := by omega
  rw [e, w64_of (n := ((i * n : Nat) : Int)) (by omega) (by omega), w64_of (by omega) (by omega)]
  omega
theorem idx_lt {i n j m t : Nat} (h : i < t) (hj : j < n) (hm : t * n ≤ m) : i * n + j < m := by
  have : (i + 1) * n ≤ t * n := Nat.mul_le_mul_right n h
  rw [Nat.add_mul] at this
  omega
theorem refsplit_L9 (q : List (BitVec 8) → Int → Option (List TApiShare × Int)) (s co : List (BitVec 8)) (t x : Nat) (v : List (BitVec 8)) (j : Nat) (hs : s.length ≤ 64) (ht : t ≤ 255) (hc : (t - 1) * s.length ≤ co.length) (hj : j < s.length) : ∀ (m k n : Nat) (r : BitVec 8), n + m = t → 1 ≤ n → m < k →
    passkeyref37SplitL9 q s co t x v j k (r ^^^ poly (cof co s.length j) (BitVec.ofInt 8 x) (n - 1)) (gp (BitVec.ofInt 8 x) (n - 1)) n = passkeyref37SplitJ8 q v j (r ^^^ poly (cof co s.length j) (BitVec.ofInt 8 x) (t - 1))
  | 0, k + 1, n, r, h, h1, hk => by
    rw [passkeyref37SplitL9, if_neg (by simp; omega), show n = t by omega]
  | m + 1, k + 1, n + 1, r, h, h1, hk => by
    have e1 : w64 (((n + 1 : Nat) : Int) - 1) = (n : Int) := by rw [w64_of (by omega) (by omega)]; omega
    have e2 : w64 (((n + 1 : Nat) : Int) + 1) = ((n + 1 + 1 : Nat) : Int) := by rw [w64_of (by omega) (by omega)]; omega
    have e3 : n * s.length + j < co.length := idx_lt (t := t - 1) (by omega) hj hc
    rw [passkeyref37SplitL9, if_pos (by simp; omega), refMul_eq, Option.bind_some, lett_def, e1, idx_of (by omega) hs hj, asq_pos (by omega), refMul_eq, Option.bind_some, e2]
    have ih := refsplit_L9 q s co t x v j hs ht hc hj m k (n + 1 + 1) r (by omega) (by omega) (by omega)
    rw [← ih, show n + 1 - 1 = n from rfl, show n + 1 + 1 - 1 = n + 1 from rfl, poly, gp, BitVec.xor_assoc]
    rfl
theorem refsplit_L6 (q : List TApiShare → Int → Option (List TApiShare × Int)) (s co : List (BitVec 8)) (t x : Nat) (v : List TApiShare) (hs : s.length ≤ 64) (ht1 : 1 ≤ t) (ht : t ≤ 255) (hc : (t - 1) * s.length ≤ co.length) : ∀ (m j k : Nat), j + m = s.length → m < k →
    passkeyref37SplitL6 q s co t v x k ((List.range j).map (shareB s co t (BitVec.ofInt 8 x))) j = passkeyref37SplitJ5 q v x (shareAt s co t x).Data
  | 0, j, k + 1, h, hk => by
    rw [passkeyref37SplitL6, if_neg (by simp; omega), show j = s.length by omega]; rfl
  | m + 1, j, k + 1, h, hk => by
    have e2 : w64 ((j : Int) + 1) = ((j + 1 : Nat) : Int) := by rw [w64_of (by omega) (by omega)]; omega
    have h9 := refsplit_L9 (passkeyref37SplitL6 q s co t v x k) s co t x ((List.range j).map (shareB s co t (BitVec.ofInt 8 x))) j hs ht hc (by omega) (t - 1) FUEL 1 (s.getD j 0#8) (by omega) (by omega) (by simp only [FUEL]; omega)
    rw [show (1 : Nat) - 1 = 0 from rfl, poly, gp, BitVec.xor_zero] at h9
    rw [passkeyref37SplitL6, if_pos (by simp; omega), asq_pos (by omega), Int.toNat_natCast]
    refine Eq.trans h9 ?_
    rw [passkeyref37SplitJ8, asq_pos (by simp; omega), passkeyref37SplitJ7, e2, ← refsplit_L6 q s co t x v hs ht1 ht hc m (j + 1) k (by omega) (by omega), List.range_succ, List.map_append]
    rfl
theorem refsplit_L3 (s co : List (BitVec 8)) (t n : Nat) (hs : s.length ≤ 64) (ht1 : 1 ≤ t) (ht : t ≤ 255) (hn : n ≤ 255) (hc : (t - 1) * s.length ≤ co.length) : ∀ (m i k : Nat), i + m = n → m < k →
    passkeyref37SplitL3 s co t n k (shares s co t i) ((i : Int) + 1) = some (shares s co t n, 0)
  | 0, i, k + 1, h, hk => by
    rw [passkeyref37SplitL3, if_neg (by simp; omega), show i = n by omega]; rfl
  | m + 1, i, k + 1, h, hk => by
    have e1 : (i : Int) + 1 = ((i + 1 : Nat) : Int) := by omega
    have e2 : w64 (((i + 1 : Nat) : Int) + 1) = ((i + 1 : Nat) : Int) + 1 := w64_of (by omega) (by omega)
    have h6 := refsplit_L6 (passkeyref37SplitL3 s co t n k) s co t (i + 1) (shares s co t i) hs ht1 ht hc s.length 0 FUEL (by omega) (by simp only [FUEL]; omega)
    rw [passkeyref37SplitL3, if_pos (by simp; omega), e1]
    refine Eq.trans h6 ?_
    rw [passkeyref37SplitJ5, asq_pos (by simp [shares]; omega), passkeyref37SplitJ4, e2, ← refsplit_L3 s co t n hs ht1 ht hn hc m (i + 1) k (by omega) (by omega)]
    congr 1
    simp only [shares, List.range_succ, List.map_append]
    rfl
theorem refSplit_eq (s co : List (BitVec 8)) (t n : Int) : passkeyref37Split s co t n = some (splitOut s co t n) := by
  rw [passkeyref37Split, splitOut]
  by_cases h1 : 64 < s.length
  · rw [if_pos (by simp; omega), if_pos h1]
  rw [if_neg (by simp; omega), if_neg h1]
  by_cases h2 : t < 1
  · rw [if_pos (by simp; omega), if_pos (Or.inl h2)]; rfl
  rw [if_neg (by simp; omega)]
  by_cases h3 : n < t
  · rw [if_pos (by simp; omega), if_pos (Or.inr (Or.inl h3))]; rfl
  rw [if_neg (by simp; omega)]
  by_cases h4 : 255 < n
  · rw [if_pos (Or.inr (Or.inr h4)), decide_eq_true h4]; rfl
  rw [if_neg (by omega), decide_eq_false h4, passkeyref37SplitJ1, if_neg (by simp)]
  obtain ⟨t, rfl⟩ := Int.eq_ofNat_of_zero_le (show 0 ≤ t by omega)
  obtain ⟨n, rfl⟩ := Int.eq_ofNat_of_zero_le (show 0 ≤ n by omega)
  have e1 : w64 ((t : Int) - 1) = ((t - 1 : Nat) : Int) := by rw [w64_of (by omega) (by omega)]; omega
  have hb : (t - 1) * s.length ≤ 255 * 64 := Nat.mul_le_mul (by omega) (by omega)
  have e3 : ((t - 1 : Nat) : Int) * (s.length : Int) = (((t - 1) * s.length : Nat) : Int) := by omega
  have e4 : ((t : Int) - 1) * (s.length : Int) = (((t - 1) * s.length : Nat) : Int) := by rw [← e3]; congr 1; omega
  rw [e1, e3, w64_of (by omega) (by omega), e4]
  by_cases h5 : (co.length : Int) < (((t - 1) * s.length : Nat) : Int)
  · rw [if_pos (by simpa using h5), if_pos h5]
  rw [if_neg (by simpa using h5), if_neg h5]
  exact refsplit_L3 s co t n (by omega) (by omega) (by omega) (by omega) (by omega) n 0 FUEL (by omega) (by simp only [FUEL]; omega)
/-! ### the program's -/
theorem split_L9 (q : List (BitVec 8) → Int → Option (List TApiShare × Int)) (s co : List (BitVec 8)) (x : Nat) (v : List (BitVec 8)) (j : Nat) (hs : s.length ≤ 64) (hx : x < 255) (hj : j < s.length) : ∀ (i k : Nat) (h : BitVec 8), i ≤ 255 → i * s.length ≤ co.length → i < k →
    sharingSplitL9 q s co x v j k h i = sharingSplitJ8 q s v j (gm h (gp (BitVec.ofInt 8 ((x + 1 : Nat) : Int)) i) ^^^ poly (cof co s.length j) (BitVec.ofInt 8 ((x + 1 : Nat) : Int)) i)
  | 0, k + 1, h, _, _, _ => by
    rw [sharingSplitL9, if_neg (by simp), gp, gm_one, poly, BitVec.xor_zero]
  | i + 1, k + 1, h, hi, hc, hk => by
    have e1 : w64 (((i + 1 : Nat) : Int) - 1) = (i : Int) := by rw [w64_of (by omega) (by omega)]; omega
    have e2 : w64 ((x : Int) + 1) = ((x + 1 : Nat) : Int) := by rw [w64_of (by omega) (by omega)]; omega
    have e3 : i * s.length + j < co.length := idx_lt (t := i + 1) (by omega) hj hc
    rw [sharingSplitL9, if_pos (by simp <;> omega), lett_def, e1, idx_of (by omega) hs hj, asq_pos (by omega), e2, mul_eq, Option.bind_some]
    rw [split_L9 q s co x v j hs hx hj i k _ (by omega) (by rw [Nat.add_mul] at hc; omega) (by omega), poly, xor_gm, xor_gm, gm_assoc, gm_assoc]
    rw [show gm (BitVec.ofInt 8 ((x + 1 : Nat) : Int)) (gp (BitVec.ofInt 8 ((x + 1 : Nat) : Int)) i) = gp (BitVec.ofInt 8 ((x + 1 : Nat) : Int)) (i + 1) by rw [gp, gm_comm]]
    congr 1
    rw [BitVec.xor_assoc]
    congr 1
    rw [BitVec.xor_comm]
    rfl
theorem split_L6 (q : List TApiShare → Int → Option (List TApiShare × Int)) (s co : List (BitVec 8)) (t x : Nat) (v : List TApiShare) (hs : s.length ≤ 64) (hx : x < 255) (ht1 : 1 ≤ t) (ht : t ≤ 255) (hc : (t - 1) * s.length ≤ co.length) : ∀ (m j k : Nat), j + m = s.length → m < k →
    sharingSplitL6 q s co t v x k ((List.range j).map (shareB s co t (BitVec.ofInt 8 ((x + 1 : Nat) : Int))) ++ List.replicate m 0#8) j = sharingSplitJ5 q v x (shareAt s co t (x + 1)).Data
  | 0, j, k + 1, h, hk => by
    rw [sharingSplitL6, if_neg (by simp; omega), show j = s.length by omega, List.replicate_zero, List.append_nil]; rfl
  | m + 1, j, k + 1, h, hk => by
    have e1 : w64 ((t : Int) - 1) = ((t - 1 : Nat) : Int) := by rw [w64_of (by omega) (by omega)]; omega
    have e2 : w64 ((j : Int) + 1) = ((j + 1 : Nat) : Int) := by rw [w64_of (by omega) (by omega)]; omega
    rw [sharingSplitL6, if_pos (by simp; omega), e1, split_L9 _ s co x _ j hs hx (by omega) (t - 1) FUEL 0#8 (by omega) hc (by simp only [FUEL]; omega), zero_gm, BitVec.zero_xor, sharingSplitJ8, asq_pos (by omega), asq_pos (by simp; omega), sharingSplitJ7, e2, ← split_L6 q s co t x v hs hx ht1 ht hc m (j + 1) k (by omega) (by omega)]
    congr 1
    rw [Int.toNat_natCast, Nat.zero_add, List.set_append_right _ _ (by simp), List.length_map, List.length_range, Nat.sub_self, List.replicate_succ, List.set_cons_zero, List.range_succ, List.map_append, List.append_assoc, BitVec.xor_comm]
    rfl
theorem split_L3 (s co : List (BitVec 8)) (t n : Nat) (hs : s.length ≤ 64) (ht1 : 1 ≤ t) (ht : t ≤ 255) (hn : n ≤ 255) (hc : (t - 1) * s.length ≤ co.length) : ∀ (m i k : Nat), i + m = n → m < k →
    sharingSplitL3 s co t n k (shares s co t i ++ List.replicate m zS) i = some (shares s co t n, 0)
  | 0, i, k + 1, h, hk => by
    rw [sharingSplitL3, if_neg (by simp; omega), show i = n by omega, List.replicate_zero, List.append_nil]; rfl
  | m + 1, i, k + 1, h, hk => by
    have e2 : w64 ((i : Int) + 1) = ((i + 1 : Nat) : Int) := by rw [w64_of (by omega) (by omega)]; omega
    have h6 := split_L6 (sharingSplitL3 s co t n k) s co t i (shares s co t i ++ List.replicate (m + 1) zS) hs (by omega) ht1 ht hc s.length 0 FUEL (by omega) (by simp only [FUEL]; omega)
    rw [List.range_zero, List.map_nil, List.nil_append] at h6
    rw [sharingSplitL3, if_pos (by simp; omega), asq_pos (by omega), Int.toNat_natCast]
    refine Eq.trans h6 ?_
    rw [sharingSplitJ5, asq_pos (by simp [shares]; omega), sharingSplitJ4, e2, ← split_L3 s co t n hs ht1 ht hn hc m (i + 1) k (by omega) (by omega)]
    congr 1
    rw [Int.toNat_natCast, Nat.zero_add, List.set_append_right _ _ (by simp [shares]), show (shares s co t i).length = i by simp [shares], Nat.sub_self, List.replicate_succ, List.set_cons_zero]
    simp only [shares, List.range_succ, List.map_append, List.append_assoc]
    rfl
theorem split_eq (s co : List (BitVec 8)) (t n : Int) : sharingSplit s co t n = some (splitOut s co t n) := by
  rw [sharingSplit, splitOut]
  by_cases h1 : 64 < s.length
  · rw [if_pos (by simp; omega), if_pos h1]
  rw [if_neg (by simp; omega), if_neg h1]
  by_cases h2 : t < 1
  · rw [if_pos (by simp; omega), if_pos (Or.inl h2)]; rfl
  rw [if_neg (by simp; omega)]
  by_cases h3 : n < t
  · rw [if_pos (by simp; omega), if_pos (Or.inr (Or.inl h3))]; rfl
  rw [if_neg (by simp; omega)]
  by_cases h4 : 255 < n
  · rw [if_pos (Or.inr (Or.inr h4)), decide_eq_true h4]; rfl
  rw [if_neg (by omega), decide_eq_false h4, sharingSplitJ1, if_neg (by simp)]
  obtain ⟨t, rfl⟩ := Int.eq_ofNat_of_zero_le (show 0 ≤ t by omega)
  obtain ⟨n, rfl⟩ := Int.eq_ofNat_of_zero_le (show 0 ≤ n by omega)
  have e1 : w64 ((t : Int) - 1) = ((t - 1 : Nat) : Int) := by rw [w64_of (by omega) (by omega)]; omega
  have hb : (t - 1) * s.length ≤ 255 * 64 := Nat.mul_le_mul (by omega) (by omega)
  have e3 : ((t - 1 : Nat) : Int) * (s.length : Int) = (((t - 1) * s.length : Nat) : Int) := by omega
  have e4 : ((t : Int) - 1) * (s.length : Int) = (((t - 1) * s.length : Nat) : Int) := by rw [← e3]; congr 1; omega
  rw [e1, e3, w64_of (by omega) (by omega), e4]
  by_cases h5 : (co.length : Int) < (((t - 1) * s.length : Nat) : Int)
  · rw [if_pos (by simpa using h5), if_pos h5]
  rw [if_neg (by simpa using h5), if_neg h5, asq_pos (by omega)]
  exact split_L3 s co t n (by omega) (by omega) (by omega) (by omega) (by omega) n 0 FUEL (by omega) (by simp only [FUEL]; omega)
/-! ### the same shares -/
theorem same_loop (l : List TApiShare) (hl : l.length ≤ 300) : ∀ (m i k : Nat), i + m = l.length → m < k → passkeyref37SameSharesL2 l l k i = some true
  | 0, i, k + 1, h, hk => by rw [passkeyref37SameSharesL2, if_neg (by simp; omega)]; rfl
  | m + 1, i, k + 1, h, hk => by
    have e2 : w64 ((i : Int) + 1) = ((i + 1 : Nat) : Int) := by rw [w64_of (by omega) (by omega)]; omega
    rw [passkeyref37SameSharesL2, if_pos (by simp; omega), asq_pos (by omega), asq_pos (by omega), if_neg (by simp), asq_pos (by omega), asq_pos (by omega), passkeyref37SameSharesJ3, if_neg (by simp), e2]
    exact same_loop l hl m (i + 1) k (by omega) (by omega)
theorem same_eq (l : List TApiShare) (hl : l.length ≤ 300) : passkeyref37SameShares l l = some true := by
  rw [passkeyref37SameShares, if_neg (by simp)]
  exact same_loop l hl l.length 0 FUEL (by omega) (by simp only [FUEL]; omega)
theorem splitOut_len (s co : List (BitVec 8)) (t n : Int) : (splitOut s co t n).1.length ≤ 300 := by
  unfold splitOut
  split
  · simp
  · split
    · simp
    · split
      · simp
      · simp [shares]; omega
theorem sharingSplits_holds (a0 a1 : List (BitVec 8)) (a2 a3 a4 : Int) (_ : a0.length ≤ 140737488351232) (_ : a1.length ≤ 140737488351232) (_ : -9223372036854775808 ≤ a2 ∧ a2 ≤ 9223372036854775807) (_ : -9223372036854775808 ≤ a3 ∧ a3 ≤ 9223372036854775807) (_ : -9223372036854775808 ≤ a4 ∧ a4 ≤ 9223372036854775807) : passkeylaw37SharingSplits a0 a1 a2 a3 a4 = some true := by
  have hJ : ∀ v, passkeylaw37SharingSplitsJ1 a0 a1 a2 a3 a4 v = some true := by
    intro v
    rw [passkeylaw37SharingSplitsJ1]
    cases v
    · rw [if_neg (by simp)]
      obtain ⟨x1, h1, _⟩ := mod_tot a2 7 (by omega) (by omega)
      obtain ⟨x2, h2, _⟩ := mod_tot a3 9 (by omega) (by omega)
      obtain ⟨x3, h3, _⟩ := mod_tot a4 50 (by omega) (by omega)
      obtain ⟨x4, h4, _⟩ := bytes_tot x3 8
      obtain ⟨x5, h5, _⟩ := mod_tot x1 7 (by omega) (by omega)
      obtain ⟨x6, h6, _⟩ := bytes_tot (w64 (x3 + 9)) (w64 (8 * x5))
      rw [h1, Option.bind_some, h2, Option.bind_some, h3, Option.bind_some, h4, Option.bind_some, Option.bind_some, h5, Option.bind_some, h6, Option.bind_some]
      simp only [split_eq, refSplit_eq, Option.bind_some, same_eq _ (splitOut_len _ _ _ _), if_true, beq_self_eq_true, awake_eq]
    · rw [if_pos rfl, awake_eq]; rfl
  rw [passkeylaw37SharingSplits]
  split <;> exact hJ _
end Go.Proofs.Ty
