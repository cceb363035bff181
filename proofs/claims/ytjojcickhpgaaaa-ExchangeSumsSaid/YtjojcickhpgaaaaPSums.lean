/- Powers of sums, and inverses. -/
import Derived.Test.YtjojcickhpgaaaaPPower
import Derived.Test.YtjojcickhpgaaaaPFermat
set_option linter.unusedSimpArgs false
set_option linter.unusedVariables false
namespace Go.Proofs.Ty
open Go Go.RW
theorem fpow_add (a : BitVec 64) (m n : Nat) : fpow a (m + n) = fmul (fpow a m) (fpow a n) := by
  apply BitVec.eq_of_toNat_eq
  rw [fpow_toNat, fmul_toNat, fpow_toNat, fpow_toNat, ← Nat.mul_mod, Nat.pow_add]
theorem half_lt (x : BitVec 64) : (x >>> 1).toNat < 2 ^ 63 := by
  rw [BitVec.toNat_ushiftRight, Nat.shiftRight_eq_div_pow, Nat.pow_one]; have := x.isLt; omega
theorem inv_one (a : BitVec 64) (h : a.toNat % 2305843009213693951 ≠ 0) (N : Nat) (hN : N + 1 = 2305843009213693950) : fmul a (fpow a N) = 1#64 := by
  apply BitVec.eq_of_toNat_eq
  rw [fmul_toNat, fpow_toNat, Nat.mul_mod_mod]
  have := Fer.fermat hN h
  rw [Nat.pow_succ, Nat.mul_comm] at this
  exact this
theorem inv_zero (a : BitVec 64) (h : a.toNat % 2305843009213693951 = 0) (n : Nat) : fmul a (fpow a n) = 0#64 := by
  apply BitVec.eq_of_toNat_eq
  rw [fmul_toNat, Nat.mul_mod, h, Nat.zero_mul, Nat.zero_mod]; rfl
theorem half_add (a1 a2 : BitVec 64) : ((a1 >>> 1) + (a2 >>> 1)).toNat = (a1 >>> 1).toNat + (a2 >>> 1).toNat := by
  have h1 := half_lt a1; have h2 := half_lt a2
  rw [BitVec.toNat_add, Nat.mod_eq_of_lt (by omega)]
theorem power_half (a0 a1 a2 : BitVec 64) : exchangePower a0 ((a1 >>> 1) + (a2 >>> 1)) = some (fmul (fpow a0 (a1 >>> 1).toNat) (fpow a0 (a2 >>> 1).toNat)) := by
  rw [power_eq, half_add, fpow_add]
theorem sumsJ (a0 a1 a2 v : BitVec 64) (h : ∀ C : BitVec 64, C = 2305843009213693949#64 → fmul a0 (fpow a0 C.toNat) = v) : passkeylaw5ExchangeSumsJ1 a0 a1 a2 v = some true := by
  have h2 : exchangePower a0 (2305843009213693949#64) = some (fpow a0 (2305843009213693949#64).toNat) := power_eq _ _
  have h3 := h _ rfl
  rw [passkeylaw5ExchangeSumsJ1, h2]
  generalize fpow a0 (2305843009213693949#64).toNat = z at *
  rw [power_half, power_eq, power_eq]
  generalize fpow a0 (a1 >>> 1).toNat = x
  generalize fpow a0 (a2 >>> 1).toNat = y
  rw [Option.bind_some, Option.bind_some, Option.bind_some, mul_eq, Option.bind_some, if_pos (beq_self_eq_true _), Option.bind_some, mul_eq, h3, Option.bind_some, if_pos (beq_self_eq_true _), awake_eq, Option.bind_some]
theorem exchangeSums_holds (a0 a1 a2 : BitVec 64) : passkeylaw5ExchangeSums a0 a1 a2 = some true := by
  rw [passkeylaw5ExchangeSums]
  have hm : (a0 % 2305843009213693951#64).toNat = a0.toNat % 2305843009213693951 := by rw [BitVec.toNat_umod]; rfl
  split
  · rename_i h
    rw [beq_iff_eq] at h
    refine sumsJ _ _ _ _ fun C _ => inv_zero a0 ?_ _
    rw [← hm, h]; rfl
  · rename_i h
    rw [beq_iff_eq] at h
    refine sumsJ _ _ _ _ fun C hC => inv_one a0 ?_ _ (by rw [hC]; rfl)
    intro e
    exact h (BitVec.eq_of_toNat_eq (by rw [hm, e]; rfl))
end Go.Proofs.Ty
