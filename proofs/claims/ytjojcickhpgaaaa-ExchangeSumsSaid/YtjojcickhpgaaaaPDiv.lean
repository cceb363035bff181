/- Products of words, and their remainders by 2^61 - 1, as the standard library's words count them. -/
import Derived.Test.YtjojcickhpgaaaaF
import Derived.KernelRfl
set_option linter.unusedSimpArgs false
set_option linter.unusedVariables false
namespace Go.Proofs.Ty
open Go Go.RW
abbrev M61 : BitVec 64 := 2305843009213693951#64
theorem lo32 (a : BitVec 64) : (a &&& 4294967295#64).toNat = a.toNat % 4294967296 := by
  rw [BitVec.toNat_and, show (4294967295#64).toNat = 2 ^ 32 - 1 from rfl, Nat.and_two_pow_sub_one_eq_mod]
theorem hi32 (a : BitVec 64) : (a >>> 32).toNat = a.toNat / 4294967296 := by
  rw [BitVec.toNat_ushiftRight, Nat.shiftRight_eq_div_pow]
theorem mul64_eq (a b : BitVec 64) : ∃ hi lo, bitsMul64 a b = some (hi, lo) ∧ hi.toNat * 18446744073709551616 + lo.toNat = a.toNat * b.toNat := by
  rw [bitsMul64]
  simp only [lett_def]
  refine ⟨_, _, rfl, ?_⟩
  simp only [BitVec.toNat_add, BitVec.toNat_mul, hi32, lo32]
  generalize ha : a.toNat = A
  generalize hb : b.toNat = B
  have hA : A < 18446744073709551616 := by rw [← ha]; exact a.isLt
  have hB : B < 18446744073709551616 := by rw [← hb]; exact b.isLt
  obtain ⟨a1, a0, e1, l1, l0⟩ : ∃ a1 a0, A = a1 * 4294967296 + a0 ∧ a1 < 4294967296 ∧ a0 < 4294967296 := ⟨A / 4294967296, A % 4294967296, by omega, by omega, by omega⟩
  obtain ⟨b1, b0, e2, k1, k0⟩ : ∃ b1 b0, B = b1 * 4294967296 + b0 ∧ b1 < 4294967296 ∧ b0 < 4294967296 := ⟨B / 4294967296, B % 4294967296, by omega, by omega, by omega⟩
  have d1 : A / 4294967296 = a1 := by omega
  have d2 : A % 4294967296 = a0 := by omega
  have d3 : B / 4294967296 = b1 := by omega
  have d4 : B % 4294967296 = b0 := by omega
  rw [d1, d2, d3, d4]
  have e3 : A * B = a1 * b1 * 18446744073709551616 + (a1 * b0 + a0 * b1) * 4294967296 + a0 * b0 := by
    rw [e1, e2]
    simp only [Nat.add_mul, Nat.mul_add]
    rw [show a1 * 4294967296 * (b1 * 4294967296) = a1 * b1 * 18446744073709551616 by rw [Nat.mul_mul_mul_comm], show a0 * (b1 * 4294967296) = a0 * b1 * 4294967296 by rw [Nat.mul_assoc], show a1 * 4294967296 * b0 = a1 * b0 * 4294967296 by rw [Nat.mul_right_comm]]
    omega
  have p11 : a1 * b1 ≤ 4294967295 * 4294967295 := Nat.mul_le_mul (by omega) (by omega)
  have p10 : a1 * b0 ≤ 4294967295 * 4294967295 := Nat.mul_le_mul (by omega) (by omega)
  have p01 : a0 * b1 ≤ 4294967295 * 4294967295 := Nat.mul_le_mul (by omega) (by omega)
  have p00 : a0 * b0 ≤ 4294967295 * 4294967295 := Nat.mul_le_mul (by omega) (by omega)
  rw [e3]
  generalize a1 * b1 = P11 at *
  generalize a1 * b0 = P10 at *
  generalize a0 * b1 = P01 at *
  generalize a0 * b0 = P00 at *
  omega
theorem lz61 : bitsLeadingZeros64 M61 = some 3 := by kernel_rfl
abbrev Y1 : BitVec 64 := 4294967295#64
abbrev YS : BitVec 64 := 18446744073709551608#64
theorem ys_eq : (M61 <<< (BitVec.ofInt 64 3).toNat) = YS := BitVec.eq_of_toNat_eq (by decide)
theorem y1_eq : YS >>> 32 = Y1 := BitVec.eq_of_toNat_eq (by decide)
theorem y0_eq : YS &&& 4294967295#64 = 4294967288#64 := BitVec.eq_of_toNat_eq (by decide)
theorem dig_step' {Q R V c : Nat} (h : Q * c + R = V) (h1 : 1 ≤ Q) : (Q - 1) * c + (R + c) = V := by
  obtain ⟨P, rfl⟩ : ∃ P, Q = P + 1 := ⟨Q - 1, by omega⟩
  rw [Nat.add_sub_cancel, ← h, Nat.add_mul, Nat.one_mul, Nat.add_assoc, Nat.add_comm R c]
theorem dig_step {Q R V : Nat} (h : Q * 4294967295 + R = V) (h1 : 1 ≤ Q) : (Q - 1) * 4294967295 + (R + 4294967295) = V := dig_step' h h1
/-- The quotient's digit: the loop ends at the true one. -/
theorem div_L5 (a1 v33 : BitVec 64) (c : Nat) (hc : ((a1 <<< (BitVec.ofInt 64 3).toNat) >>> 32).toNat = c) (hc2 : c < 4294967296) (hv : v33.toNat < 18446744073709551608) : ∀ (n k : Nat) (q r : BitVec 64), (r.toNat = 0 → 2 ≤ n) → 1 ≤ n → n < k → r.toNat < 4294967296 → q.toNat ≤ 4294967296 → q.toNat * 4294967295 + r.toNat = v33.toNat → (v33.toNat * 4294967296 + c) / 18446744073709551608 ≤ q.toNat →
    ∃ q', bitsDiv64L5 a1 M61 3 v33 k q r = bitsDiv64J1 a1 M61 3 v33 q' ∧ q'.toNat = (v33.toNat * 4294967296 + c) / 18446744073709551608 := by
  intro n
  induction n with
  | zero => intro k q r h0 h1; exact absurd h1 (by omega)
  | succ n ih =>
    intro k q r h0 h1 h2 h3 h4 h5 h6
    cases k with
    | zero => exact absurd h2 (Nat.not_lt_zero _)
    | succ k =>
      have dec : ∀ (hgt : (v33.toNat * 4294967296 + c) / 18446744073709551608 < q.toNat), ∃ q', bitsDiv64J6 (bitsDiv64L5 a1 M61 3 v33 k) a1 M61 3 v33 q r true = bitsDiv64J1 a1 M61 3 v33 q' ∧ q'.toNat = (v33.toNat * 4294967296 + c) / 18446744073709551608 := by
        intro hgt
        have hq1 : (q - 1#64).toNat = q.toNat - 1 := by rw [BitVec.toNat_sub]; simp; omega
        have hr1 : (r + Y1).toNat = r.toNat + 4294967295 := by rw [BitVec.toNat_add]; simp; omega
        rw [bitsDiv64J6, if_pos rfl, ys_eq, y1_eq]
        split
        · rename_i hb
          rw [decide_eq_true_eq, hr1, show (4294967296#64).toNat = 4294967296 from rfl] at hb
          exact ⟨_, rfl, by omega⟩
        · rename_i hb
          rw [decide_eq_true_eq, hr1, show (4294967296#64).toNat = 4294967296 from rfl] at hb
          exact ih k _ _ (by omega) (by omega) (by omega) (by omega) (by omega) (by have h7 := dig_step h5 (by omega); rwa [← hq1, ← hr1] at h7) (by omega)
      rw [bitsDiv64L5]
      split
      · rename_i hb
        rw [decide_eq_true_eq, show (4294967296#64).toNat = 4294967296 from rfl] at hb
        exact dec (by omega)
      · rename_i hb
        rw [decide_eq_true_eq, show (4294967296#64).toNat = 4294967296 from rfl] at hb
        rw [lett_def, lett_def, ys_eq, y0_eq]
        have e1 : (q * 4294967288#64).toNat = q.toNat * 4294967288 := by rw [BitVec.toNat_mul]; simp; omega
        have e2 : (4294967296#64 * r + (a1 <<< (BitVec.ofInt 64 3).toNat) >>> 32).toNat = 4294967296 * r.toNat + c := by rw [BitVec.toNat_add, BitVec.toNat_mul, hc]; simp; omega
        by_cases ht : (4294967296#64 * r + (a1 <<< (BitVec.ofInt 64 3).toNat) >>> 32).toNat < (q * 4294967288#64).toNat
        · rw [decide_eq_true ht]
          rw [e1, e2] at ht
          exact dec (by omega)
        · rw [decide_eq_false ht, bitsDiv64J6, if_neg (by simp)]
          rw [e1, e2] at ht
          exact ⟨_, rfl, by omega⟩
theorem div_L3 (a1 v48 v52 : BitVec 64) (c : Nat) (hc : ((a1 <<< (BitVec.ofInt 64 3).toNat) &&& 4294967295#64).toNat = c) (hc2 : c < 4294967296) (U : Nat) (hv : U < 18446744073709551608) : ∀ (n k : Nat) (r q : BitVec 64), (r.toNat = 0 → 2 ≤ n) → 1 ≤ n → n < k → r.toNat < 4294967296 → q.toNat ≤ 4294967296 → q.toNat * 4294967295 + r.toNat = U → (U * 4294967296 + c) / 18446744073709551608 ≤ q.toNat →
    ∃ q', bitsDiv64L3 a1 M61 3 v48 v52 k r q = bitsDiv64J2 a1 M61 3 v48 v52 q' ∧ q'.toNat = (U * 4294967296 + c) / 18446744073709551608 := by
  intro n
  induction n with
  | zero => intro k r q h0 h1; exact absurd h1 (by omega)
  | succ n ih =>
    intro k r q h0 h1 h2 h3 h4 h5 h6
    cases k with
    | zero => exact absurd h2 (Nat.not_lt_zero _)
    | succ k =>
      have dec : ∀ (hgt : (U * 4294967296 + c) / 18446744073709551608 < q.toNat), ∃ q', bitsDiv64J4 (bitsDiv64L3 a1 M61 3 v48 v52 k) a1 M61 3 v48 v52 r q true = bitsDiv64J2 a1 M61 3 v48 v52 q' ∧ q'.toNat = (U * 4294967296 + c) / 18446744073709551608 := by
        intro hgt
        have hq1 : (q - 1#64).toNat = q.toNat - 1 := by rw [BitVec.toNat_sub]; simp; omega
        have hr1 : (r + Y1).toNat = r.toNat + 4294967295 := by rw [BitVec.toNat_add]; simp; omega
        rw [bitsDiv64J4, if_pos rfl, ys_eq, y1_eq]
        split
        · rename_i hb
          rw [decide_eq_true_eq, hr1, show (4294967296#64).toNat = 4294967296 from rfl] at hb
          exact ⟨_, rfl, by omega⟩
        · rename_i hb
          rw [decide_eq_true_eq, hr1, show (4294967296#64).toNat = 4294967296 from rfl] at hb
          exact ih k _ _ (by omega) (by omega) (by omega) (by omega) (by omega) (by have h7 := dig_step h5 (by omega); rwa [← hq1, ← hr1] at h7) (by omega)
      rw [bitsDiv64L3]
      split
      · rename_i hb
        rw [decide_eq_true_eq, show (4294967296#64).toNat = 4294967296 from rfl] at hb
        exact dec (by omega)
      · rename_i hb
        rw [decide_eq_true_eq, show (4294967296#64).toNat = 4294967296 from rfl] at hb
        rw [lett_def, lett_def, ys_eq, y0_eq]
        have e1 : (q * 4294967288#64).toNat = q.toNat * 4294967288 := by rw [BitVec.toNat_mul]; simp; omega
        have e2 : (4294967296#64 * r + ((a1 <<< (BitVec.ofInt 64 3).toNat) &&& 4294967295#64)).toNat = 4294967296 * r.toNat + c := by rw [BitVec.toNat_add, BitVec.toNat_mul, hc]; simp; omega
        by_cases ht : (4294967296#64 * r + ((a1 <<< (BitVec.ofInt 64 3).toNat) &&& 4294967295#64)).toNat < (q * 4294967288#64).toNat
        · rw [decide_eq_true ht]
          rw [e1, e2] at ht
          exact dec (by omega)
        · rw [decide_eq_false ht, bitsDiv64J4, if_neg (by simp)]
          rw [e1, e2] at ht
          exact ⟨_, rfl, by omega⟩
/-- The first digit's remainder. -/
theorem un21_eq (u w q : BitVec 64) (c : Nat) (hw : w.toNat = c) (hc : c < 4294967296) (hu : u.toNat < 18446744073709551608) (hq : q.toNat = (u.toNat * 4294967296 + c) / 18446744073709551608) : ((u * 4294967296#64 + w) - q * YS).toNat = (u.toNat * 4294967296 + c) % 18446744073709551608 := by
  rw [BitVec.toNat_sub, BitVec.toNat_add, BitVec.toNat_mul, BitVec.toNat_mul, hw]
  simp only [show (4294967296#64).toNat = 4294967296 from rfl, show YS.toNat = 18446744073709551608 from rfl]
  generalize hN : u.toNat * 4294967296 + c = N at hq ⊢
  have hlt : q.toNat < 4294967296 := by omega
  omega
theorem div_J2 (a1 v48 v52 v63 : BitVec 64) (U c : Nat) (hU : (v52 - v48 * YS).toNat = U) (hUl : U < 18446744073709551608) (hc : ((a1 <<< (BitVec.ofInt 64 3).toNat) &&& 4294967295#64).toNat = c) (hc2 : c < 4294967296) (hq : v63.toNat = (U * 4294967296 + c) / 18446744073709551608) : ∃ d r, bitsDiv64J2 a1 M61 3 v48 v52 v63 = some (d, r) ∧ r.toNat = (U * 4294967296 + c) % 18446744073709551608 / 8 := by
  rw [bitsDiv64J2, lett_def, lett_def, lett_def, ys_eq]
  refine ⟨_, _, rfl, ?_⟩
  have h := un21_eq (v52 - v48 * YS) ((a1 <<< (BitVec.ofInt 64 3).toNat) &&& 4294967295#64) v63 c hc hc2 (by rw [hU]; exact hUl) (by rw [hU]; exact hq)
  rw [hU] at h
  rw [BitVec.toNat_ushiftRight, h, Nat.shiftRight_eq_div_pow, show (BitVec.ofInt 64 3).toNat = 3 from rfl, show (2 : Nat) ^ 3 = 8 from rfl]
theorem div_J1 (a1 v33 v48 : BitVec 64) (c1 c0 : Nat) (h1 : ((a1 <<< (BitVec.ofInt 64 3).toNat) >>> 32).toNat = c1) (h0 : ((a1 <<< (BitVec.ofInt 64 3).toNat) &&& 4294967295#64).toNat = c0) (l1 : c1 < 4294967296) (l0 : c0 < 4294967296) (hv : v33.toNat < 18446744073709551608) (hq : v48.toNat = (v33.toNat * 4294967296 + c1) / 18446744073709551608) :
    ∃ d r, bitsDiv64J1 a1 M61 3 v33 v48 = some (d, r) ∧ r.toNat = ((v33.toNat * 4294967296 + c1) % 18446744073709551608 * 4294967296 + c0) % 18446744073709551608 / 8 := by
  rw [bitsDiv64J1]
  rw [lett_def, ys_eq, y1_eq, asq_pos (by decide), lett_def, lett_def]
  have hU := un21_eq v33 ((a1 <<< (BitVec.ofInt 64 3).toNat) >>> 32) v48 c1 h1 l1 hv hq
  generalize hX : (v33 * 4294967296#64 + (a1 <<< (BitVec.ofInt 64 3).toNat) >>> 32) - v48 * YS = X at hU
  have hUl : (v33.toNat * 4294967296 + c1) % 18446744073709551608 < 18446744073709551608 := Nat.mod_lt _ (by omega)
  have hd : (X / Y1).toNat = X.toNat / 4294967295 := by rw [BitVec.toNat_udiv, show Y1.toNat = 4294967295 from rfl]
  have hm : (X - X / Y1 * Y1).toNat = X.toNat % 4294967295 := by
    rw [BitVec.toNat_sub, BitVec.toNat_mul, hd]
    simp only [show Y1.toNat = 4294967295 from rfl]
    have := X.isLt
    omega
  obtain ⟨q', e1, e2⟩ := div_L3 a1 v48 (v33 * 4294967296#64 + (a1 <<< (BitVec.ofInt 64 3).toNat) >>> 32) c0 h0 l0 _ hUl 2 FUEL (X - X / Y1 * Y1) (X / Y1) (by omega) (by omega) (by simp only [FUEL]; omega) (by omega) (by omega) (by omega) (by omega)
  rw [e1]
  obtain ⟨d, r, e3, e4⟩ := div_J2 a1 v48 (v33 * 4294967296#64 + (a1 <<< (BitVec.ofInt 64 3).toNat) >>> 32) q' _ c0 (by rw [hX]; exact hU) hUl h0 l0 e2
  exact ⟨d, r, e3, e4⟩
theorem div64_eq (hi lo : BitVec 64) (h : hi.toNat < 2305843009213693951) : ∃ d r, bitsDiv64 hi lo M61 = some (d, r) ∧ r.toNat = (hi.toNat * 18446744073709551616 + lo.toNat) % 2305843009213693951 := by
  rw [bitsDiv64, if_neg (by decide), if_neg (by simp only [decide_eq_true_eq, show M61.toNat = 2305843009213693951 from rfl]; omega)]
  by_cases h0 : hi = 0#64
  · subst h0
    rw [if_pos (by rfl), asq_pos (by decide), asq_pos (by decide)]
    exact ⟨_, _, rfl, by rw [BitVec.toNat_umod]; simp⟩
  · rw [if_neg (by simpa using h0), lz61, Option.bind_some, lett_def, ys_eq, y1_eq, asq_pos (by decide), lett_def]
    have hs : ∀ a : BitVec 64, (a <<< (BitVec.ofInt 64 3).toNat).toNat = a.toNat * 8 % 18446744073709551616 := by
      intro a
      rw [BitVec.toNat_shiftLeft, show (BitVec.ofInt 64 3).toNat = 3 from rfl, Nat.shiftLeft_eq]
    have h33 : ((hi <<< (BitVec.ofInt 64 3).toNat) ||| (lo >>> (64#64 - BitVec.ofInt 64 3).toNat)).toNat = hi.toNat * 8 + lo.toNat / 2305843009213693952 := by
      rw [BitVec.toNat_or, hs, BitVec.toNat_ushiftRight, show (64#64 - BitVec.ofInt 64 3).toNat = 61 from rfl, Nat.shiftRight_eq_div_pow, Nat.mod_eq_of_lt (by omega)]
      have hl := lo.isLt
      have := Nat.shiftLeft_add_eq_or_of_lt (i := 3) (b := lo.toNat / 2 ^ 61) (by omega) hi.toNat
      rw [Nat.shiftLeft_eq, show (2 : Nat) ^ 3 = 8 from rfl] at this
      omega
    generalize hX : ((hi <<< (BitVec.ofInt 64 3).toNat) ||| (lo >>> (64#64 - BitVec.ofInt 64 3).toNat)) = X at h33
    have hl := lo.isLt
    have hc1 : ((lo <<< (BitVec.ofInt 64 3).toNat) >>> 32).toNat = lo.toNat * 8 % 18446744073709551616 / 4294967296 := by rw [hi32, hs]
    have hc0 : ((lo <<< (BitVec.ofInt 64 3).toNat) &&& 4294967295#64).toNat = lo.toNat * 8 % 18446744073709551616 % 4294967296 := by rw [lo32, hs]
    have hd : (X / Y1).toNat = X.toNat / 4294967295 := by rw [BitVec.toNat_udiv, show Y1.toNat = 4294967295 from rfl]
    have hm : (X - X / Y1 * Y1).toNat = X.toNat % 4294967295 := by
      rw [BitVec.toNat_sub, BitVec.toNat_mul, hd]
      simp only [show Y1.toNat = 4294967295 from rfl]
      have := X.isLt
      omega
    have hXl : X.toNat < 18446744073709551608 := by omega
    obtain ⟨q', e1, e2⟩ := div_L5 lo X _ hc1 (by omega) hXl 2 FUEL (X / Y1) (X - X / Y1 * Y1) (by omega) (by omega) (by simp only [FUEL]; omega) (by omega) (by omega) (by omega) (by omega)
    rw [e1]
    obtain ⟨d, r, e3, e4⟩ := div_J1 lo X q' _ _ hc1 hc0 (by omega) (by omega) hXl e2
    refine ⟨d, r, e3, ?_⟩
    rw [e4, h33]
    omega
theorem rem64_eq (hi lo : BitVec 64) : ∃ r, bitsRem64 hi lo M61 = some r ∧ r.toNat = (hi.toNat * 18446744073709551616 + lo.toNat) % 2305843009213693951 := by
  rw [bitsRem64, asq_pos (by decide)]
  have hm : (hi % M61).toNat = hi.toNat % 2305843009213693951 := by rw [BitVec.toNat_umod, show M61.toNat = 2305843009213693951 from rfl]
  obtain ⟨d, r, e1, e2⟩ := div64_eq (hi % M61) lo (by omega)
  rw [e1]
  refine ⟨r, rfl, ?_⟩
  rw [e2, hm]
  omega
/-- The field's product. -/
def fmul (a b : BitVec 64) : BitVec 64 := BitVec.ofNat 64 (a.toNat * b.toNat % 2305843009213693951)
theorem fmul_toNat (a b : BitVec 64) : (fmul a b).toNat = a.toNat * b.toNat % 2305843009213693951 := by
  rw [fmul, BitVec.toNat_ofNat]; omega
theorem mul_eq (a b : BitVec 64) : exchangeMul a b = some (fmul a b) := by
  obtain ⟨hi, lo, e1, e2⟩ := mul64_eq a b
  obtain ⟨r, e3, e4⟩ := rem64_eq hi lo
  rw [exchangeMul, e1, Option.bind_some, e3, Option.bind_some]
  congr 1
  apply BitVec.eq_of_toNat_eq
  rw [e4, e2, fmul_toNat]
end Go.Proofs.Ty
