/- The exchange's field. -/
import Derived.Test.YtjojcickhpgaaaaPDiv
set_option linter.unusedSimpArgs false
set_option linter.unusedVariables false
namespace Go.Proofs.Ty
open Go Go.RW
theorem awake_eq : passkeylaw5awake = some true := by kernel_rfl
theorem nat_bit (x : BitVec 64) (j : Nat) : (((x >>> j) &&& 1#64) == 1#64) = decide (x.toNat / 2 ^ j % 2 = 1) := by
  have h : ((x >>> j) &&& 1#64).toNat = x.toNat / 2 ^ j % 2 := by
    rw [BitVec.toNat_and, BitVec.toNat_ushiftRight, Nat.shiftRight_eq_div_pow, show (1#64).toNat = 2 ^ 1 - 1 from rfl, Nat.and_two_pow_sub_one_eq_mod]
  by_cases hb : x.toNat / 2 ^ j % 2 = 1
  · rw [decide_eq_true hb, beq_iff_eq]
    apply BitVec.eq_of_toNat_eq
    rw [h, hb]; rfl
  · rw [decide_eq_false hb, beq_eq_false_iff_ne]
    intro e
    rw [e] at h
    exact hb h.symm
theorem ofInt_small (j : Nat) (h : j < 100) : (BitVec.ofInt 64 (j : Int)).toNat = j := by rw [BitVec.toNat_ofInt]; omega
theorem dbl_mod (A q b m : Nat) : (A * (2 * q + b)) % m = ((A * q % m) * 2 % m + A * b) % m := by
  rw [Nat.mul_add, show A * (2 * q) = A * q * 2 by rw [Nat.mul_comm 2 q, Nat.mul_assoc], Nat.add_mod, Nat.mul_mod (A * q) 2, Nat.add_mod ((A * q % m) * 2 % m)]
  simp [Nat.mul_mod]
theorem refMul_loop (a b : BitVec 64) : ∀ (j k : Nat) (v : BitVec 64), j ≤ 61 → j < k → v.toNat = (a.toNat * (b.toNat % 2305843009213693951 / 2 ^ j)) % 2305843009213693951 → passkeyref3MulL2 a b k v ((j : Int) - 1) = some (fmul a b)
  | 0, k + 1, v, _, _, hv => by
    rw [passkeyref3MulL2, if_neg (by simp), passkeyref3MulJ1]
    congr 1
    apply BitVec.eq_of_toNat_eq
    rw [hv, fmul_toNat, Nat.pow_zero, Nat.div_one, Nat.mul_mod_mod]
  | j + 1, k + 1, v, hj, hk, hv => by
    have e1 : ((j + 1 : Nat) : Int) - 1 = (j : Int) := by omega
    have e3 : w64 ((j : Int) - 1) = (j : Int) - 1 := w64_of (by omega) (by omega)
    have hM : M61.toNat = 2305843009213693951 := rfl
    have hvl : v.toNat < 2305843009213693951 := by rw [hv]; exact Nat.mod_lt _ (by omega)
    have h2 : ((v * 2#64) % M61).toNat = v.toNat * 2 % 2305843009213693951 := by
      rw [BitVec.toNat_umod, BitVec.toNat_mul, hM, show (2#64).toNat = 2 from rfl, Nat.mod_eq_of_lt (a := v.toNat * 2) (b := 2 ^ 64) (by omega)]
    have hbm : (b % M61).toNat = b.toNat % 2305843009213693951 := by rw [BitVec.toNat_umod, hM]
    have ham : (a % M61).toNat = a.toNat % 2305843009213693951 := by rw [BitVec.toNat_umod, hM]
    have hq : b.toNat % 2305843009213693951 / 2 ^ j = 2 * (b.toNat % 2305843009213693951 / 2 ^ (j + 1)) + b.toNat % 2305843009213693951 / 2 ^ j % 2 := by
      rw [Nat.pow_succ, ← Nat.div_div_eq_div_mul]; omega
    have key := dbl_mod a.toNat (b.toNat % 2305843009213693951 / 2 ^ (j + 1)) (b.toNat % 2305843009213693951 / 2 ^ j % 2) 2305843009213693951
    rw [← hq, ← hv] at key
    rw [e1, passkeyref3MulL2, if_pos (by simp), lett_def, ofInt_small j (by omega), nat_bit, hbm]
    by_cases hb : b.toNat % 2305843009213693951 / 2 ^ j % 2 = 1
    · rw [if_pos (by rw [decide_eq_true hb]), lett_def, passkeyref3MulJ3, e3]
      refine refMul_loop a b j k _ (by omega) (by omega) ?_
      rw [key, hb, BitVec.toNat_umod, BitVec.toNat_add, h2, ham, hM, Nat.mul_one, Nat.mod_eq_of_lt (b := 2 ^ 64) (by omega), Nat.add_mod_mod]
    · rw [if_neg (by rw [decide_eq_false hb]; simp), passkeyref3MulJ3, e3]
      refine refMul_loop a b j k _ (by omega) (by omega) ?_
      rw [key, show b.toNat % 2305843009213693951 / 2 ^ j % 2 = 0 by omega, h2, Nat.mul_zero, Nat.add_zero, Nat.mod_mod]
theorem refMul_eq (a b : BitVec 64) : passkeyref3Mul a b = some (fmul a b) := by
  rw [passkeyref3Mul]
  have := refMul_loop a b 61 FUEL 0#64 (by omega) (by simp only [FUEL]; omega) (by
    rw [Nat.div_eq_of_lt (by have := Nat.mod_lt b.toNat (show 0 < 2305843009213693951 by omega); omega)]; simp)
  exact this
theorem exchangeMul_holds (a0 a1 : BitVec 64) (a2 : BitVec 8) : passkeylaw5ExchangeMul a0 a1 a2 = some true := by
  have h6 : (a2 % 6#8).toNat < 6 := by rw [BitVec.toNat_umod]; exact Nat.mod_lt _ (by decide)
  rw [passkeylaw5ExchangeMul, asq_pos (by simp only [List.length_cons, List.length_nil]; omega)]
  simp only [mul_eq, refMul_eq, Option.bind_some, beq_self_eq_true, if_true, awake_eq]
theorem fmul_comm (a b : BitVec 64) : fmul a b = fmul b a := by rw [fmul, fmul, Nat.mul_comm]
theorem fmul_assoc (a b c : BitVec 64) : fmul (fmul a b) c = fmul a (fmul b c) := by
  apply BitVec.eq_of_toNat_eq
  rw [fmul_toNat, fmul_toNat, fmul_toNat, fmul_toNat, Nat.mod_mul_mod, Nat.mul_mod_mod, Nat.mul_assoc]
theorem fmul_one (a : BitVec 64) : fmul (a % M61) 1#64 = a % M61 := by
  apply BitVec.eq_of_toNat_eq
  rw [fmul_toNat, show (1#64).toNat = 1 from rfl, Nat.mul_one, BitVec.toNat_umod, show M61.toNat = 2305843009213693951 from rfl, Nat.mod_mod]
theorem fmul_add (a b c : BitVec 64) : fmul (a % M61) ((b % M61 + c % M61) % M61) = (fmul (a % M61) (b % M61) + fmul (a % M61) (c % M61)) % M61 := by
  have hM : M61.toNat = 2305843009213693951 := rfl
  have hb : b.toNat % 2305843009213693951 < 2305843009213693951 := Nat.mod_lt _ (by omega)
  have hc : c.toNat % 2305843009213693951 < 2305843009213693951 := Nat.mod_lt _ (by omega)
  apply BitVec.eq_of_toNat_eq
  rw [BitVec.toNat_umod, BitVec.toNat_add, fmul_toNat, fmul_toNat, fmul_toNat]
  simp only [BitVec.toNat_umod, BitVec.toNat_add, hM]
  have h1 : a.toNat % 2305843009213693951 * (b.toNat % 2305843009213693951) % 2305843009213693951 < 2305843009213693951 := Nat.mod_lt _ (by omega)
  have h2 : a.toNat % 2305843009213693951 * (c.toNat % 2305843009213693951) % 2305843009213693951 < 2305843009213693951 := Nat.mod_lt _ (by omega)
  rw [Nat.mod_eq_of_lt (a := b.toNat % 2305843009213693951 + c.toNat % 2305843009213693951) (b := 2 ^ 64) (by omega)]
  rw [Nat.mod_eq_of_lt (a := a.toNat % 2305843009213693951 * (b.toNat % 2305843009213693951) % 2305843009213693951 + a.toNat % 2305843009213693951 * (c.toNat % 2305843009213693951) % 2305843009213693951) (b := 2 ^ 64) (by omega)]
  rw [Nat.mul_mod_mod (a.toNat % 2305843009213693951) (b.toNat % 2305843009213693951 + c.toNat % 2305843009213693951) 2305843009213693951, Nat.mul_add, Nat.add_mod]
theorem exchangeField_holds (a0 a1 a2 : BitVec 64) : passkeylaw5ExchangeField a0 a1 a2 = some true := by
  rw [passkeylaw5ExchangeField]
  simp only [mul_eq, Option.bind_some, lett_def]
  rw [fmul_comm (a1 % M61) (a0 % M61), if_pos (by simp), fmul_assoc, if_pos (by simp), fmul_add, if_pos (by simp), fmul_one, if_pos (by simp), awake_eq]
  rfl
end Go.Proofs.Ty
