/- Both sides of the exchange come to one secret. -/
import Derived.Test.YtjojcickhpgaaaaPShared
set_option linter.unusedSimpArgs false
set_option linter.unusedVariables false
namespace Go.Proofs.Ty
open Go Go.RW
theorem fpow_fpow (g : BitVec 64) (m n : Nat) : fpow (fpow g m) n = fpow (fpow g n) m := by
  apply BitVec.eq_of_toNat_eq
  rw [fpow_toNat, fpow_toNat, fpow_toNat, fpow_toNat, ← Nat.pow_mod, ← Nat.pow_mod, ← Nat.pow_mul, ← Nat.pow_mul, Nat.mul_comm]
theorem shared_in (a b : BitVec 64) (h1 : ¬ b.toNat < 2) (h2 : ¬ 2305843009213693949 < b.toNat) : exchangeShared a b = some (keyOf (fpow b (expo a).toNat), 0) := by
  rw [exchangeShared, if_neg (by rw [decide_eq_true_eq, show (2#64).toNat = 2 from rfl]; exact h1), decide_eq_false (by rw [show (2305843009213693949#64).toNat = 2305843009213693949 from rfl]; exact h2), sharedJ_eq]; rfl
theorem agreesJ_true (a0 a1 : BitVec 64) : passkeylaw5ExchangeAgreesJ1 a0 a1 (fpow 37#64 (expo a0).toNat) (fpow 37#64 (expo a1).toNat) true = some true := by
  rw [passkeylaw5ExchangeAgreesJ1, if_pos rfl]
  simp only [refPublic_eq, Option.bind_some, beq_self_eq_true, if_true, awake_eq]
theorem exchangeAgrees_holds (a0 a1 : BitVec 64) : passkeylaw5ExchangeAgrees a0 a1 = some true := by
  rw [passkeylaw5ExchangeAgrees, public_eq, Option.bind_some, public_eq, Option.bind_some]
  split
  · exact agreesJ_true a0 a1
  rename_i h1
  split
  · exact agreesJ_true a0 a1
  rename_i h2
  split
  · exact agreesJ_true a0 a1
  rename_i h3
  by_cases h4 : (2305843009213693949#64).toNat < (fpow 37#64 (expo a1).toNat).toNat
  · rw [decide_eq_true h4]; exact agreesJ_true a0 a1
  · rw [decide_eq_true_eq, show (2#64).toNat = 2 from rfl] at h1 h3
    rw [decide_eq_true_eq, show (2305843009213693949#64).toNat = 2305843009213693949 from rfl] at h2
    rw [decide_eq_false h4, passkeylaw5ExchangeAgreesJ1, if_neg (by simp)]
    rw [show (2305843009213693949#64).toNat = 2305843009213693949 from rfl] at h4
    rw [shared_in a0 _ h3 h4, Option.bind_some, shared_in a1 _ h1 h2, Option.bind_some, fpow_fpow 37#64 (expo a1).toNat]
    simp only [beq_self_eq_true, if_true, awake_eq, Option.bind_some]
end Go.Proofs.Ty
