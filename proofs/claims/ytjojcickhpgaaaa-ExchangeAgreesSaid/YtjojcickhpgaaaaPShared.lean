/- Shared secrets of the exchange. -/
import Derived.Test.YtjojcickhpgaaaaPPower
import Derived.Test.YtjojcickhpgaaaaPDigest
set_option linter.unusedSimpArgs false
set_option linter.unusedVariables false
namespace Go.Proofs.Ty
open Go Go.RW
def expo (a : BitVec 64) : BitVec 64 := 2#64 + a % 2305843009213693948#64
def keyOf (w : BitVec 64) : BitVec 64 := sip (BitVec.ofInt 64 12) 0#64 (wordsBytes [w])
def sharedOut (a b : BitVec 64) : BitVec 64 × Int :=
  if b.toNat < 2 ∨ 2305843009213693949 < b.toNat then (0#64, 9) else (keyOf (fpow b (expo a).toNat), 0)
theorem words_len (w : BitVec 64) : (wordsBytes [w]).length ≤ 140737488351232 := by rw [wordsBytes_length]; simp
theorem sharedJ_eq (a b : BitVec 64) (v : Bool) : exchangeSharedJ1 a b v = some (if v then (0#64, 9) else (keyOf (fpow b (expo a).toNat), 0)) := by
  rw [exchangeSharedJ1]
  cases v
  · rw [if_neg (by simp), exchangeexponent, Option.bind_some, power_eq, Option.bind_some, words_eq _ (by simp), Option.bind_some, digestHash, sum_eq _ _ _ (words_len _)]; rfl
  · rfl
theorem refSharedJ_eq (a b : BitVec 64) (v : Bool) : passkeyref3SharedJ1 a b v = some (if v then (0#64, 9) else (keyOf (fpow b (expo a).toNat), 0)) := by
  rw [passkeyref3SharedJ1]
  cases v
  · rw [if_neg (by simp), passkeyref3exponent, Option.bind_some, refPower_eq, Option.bind_some, ref_words_eq _ (by simp), Option.bind_some, passkeyref1Hash, ref_sum_eq _ _ _ (words_len _)]; rfl
  · rfl
theorem shared_same (a b : BitVec 64) : passkeyref3Shared a b = exchangeShared a b := by
  rw [passkeyref3Shared, exchangeShared]
  simp only [sharedJ_eq, refSharedJ_eq]
theorem public_eq (a : BitVec 64) : exchangePublic a = some (fpow 37#64 (expo a).toNat) := by
  rw [exchangePublic, exchangeexponent, Option.bind_some, power_eq]; rfl
theorem refPublic_eq (a : BitVec 64) : passkeyref3PublicWord a = some (fpow 37#64 (expo a).toNat) := by
  rw [passkeyref3PublicWord, passkeyref3exponent, Option.bind_some, refPower_eq]; rfl
theorem shared_tot (a b : BitVec 64) : ∃ y, exchangeShared a b = some y := by
  rw [exchangeShared]
  split <;> exact ⟨_, sharedJ_eq _ _ _⟩
theorem exchangeShared_holds (a0 a1 : BitVec 64) (a2 : BitVec 8) : passkeylaw5ExchangeShared a0 a1 a2 = some true := by
  have h7 : (a2 % 7#8).toNat < 7 := by rw [BitVec.toNat_umod]; exact Nat.mod_lt _ (by decide)
  rw [passkeylaw5ExchangeShared, asq_pos (by simp only [List.length_cons, List.length_nil]; omega)]
  obtain ⟨y, hy⟩ := shared_tot a0 a1
  obtain ⟨z, hz⟩ := shared_tot a0 (([(0#64), (1#64), (2#64), (2305843009213693949#64), (2305843009213693950#64), (2305843009213693951#64), (18446744073709551615#64)] : List (BitVec 64)).getD (0 + ((a2 % (7#8)).toNat : Int).toNat) 0#64)
  simp only [shared_same, hy, hz, public_eq, refPublic_eq, Option.bind_some, beq_self_eq_true, if_true, awake_eq]
end Go.Proofs.Ty
