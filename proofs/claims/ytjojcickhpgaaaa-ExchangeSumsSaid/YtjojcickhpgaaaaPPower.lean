/- Powers in the exchange's field. -/
import Derived.Test.YtjojcickhpgaaaaPExch
set_option linter.unusedSimpArgs false
set_option linter.unusedVariables false
namespace Go.Proofs.Ty
open Go Go.RW
def fpow (a : BitVec 64) (e : Nat) : BitVec 64 := BitVec.ofNat 64 (a.toNat ^ e % 2305843009213693951)
theorem fpow_toNat (a : BitVec 64) (e : Nat) : (fpow a e).toNat = a.toNat ^ e % 2305843009213693951 := by
  rw [fpow, BitVec.toNat_ofNat]; omega
theorem pow_red (A B m k : Nat) : (A % m * (B % m) ^ k) % m = A * B ^ k % m := by
  rw [Nat.mod_mul_mod, Nat.mul_mod, ← Nat.pow_mod, ← Nat.mul_mod]
theorem pow_two_mul (b k : Nat) : (b * b) ^ k = b ^ (2 * k) := by rw [Nat.pow_mul, Nat.pow_two]
theorem power_loop : ∀ (n k : Nat) (b e r : BitVec 64), e.toNat < 2 ^ n → n < k → r.toNat < 2305843009213693951 → ∃ s, exchangePowerL2 k b e r = some s ∧ s.toNat = r.toNat * b.toNat ^ e.toNat % 2305843009213693951 := by
  intro n
  induction n with
  | zero =>
    intro k b e r he hk hr
    cases k with
    | zero => exact absurd hk (Nat.not_lt_zero _)
    | succ k =>
      have h0 : e.toNat = 0 := by simpa using he
      rw [exchangePowerL2, if_neg (by rw [h0]; simp)]
      exact ⟨r, rfl, by rw [h0, Nat.pow_zero, Nat.mul_one, Nat.mod_eq_of_lt hr]⟩
  | succ n ih =>
    intro k b e r he hk hr
    cases k with
    | zero => exact absurd hk (Nat.not_lt_zero _)
    | succ k =>
      rw [exchangePowerL2]
      by_cases h0 : e.toNat = 0
      · rw [if_neg (by rw [h0]; simp)]
        exact ⟨r, rfl, by rw [h0, Nat.pow_zero, Nat.mul_one, Nat.mod_eq_of_lt hr]⟩
      · have hb := nat_bit e 0
        rw [BitVec.ushiftRight_zero, Nat.pow_zero, Nat.div_one] at hb
        have he2 : (e >>> 1).toNat = e.toNat / 2 := by rw [BitVec.toNat_ushiftRight, Nat.shiftRight_eq_div_pow, Nat.pow_one]
        have hp : 2 ^ (n + 1) = 2 ^ n * 2 := Nat.pow_succ ..
        rw [if_pos (by simp; omega), hb]
        by_cases h1 : e.toNat % 2 = 1
        · rw [if_pos (by rw [decide_eq_true h1]), mul_eq, Option.bind_some, exchangePowerJ3, mul_eq, Option.bind_some]
          obtain ⟨s, e1, e2⟩ := ih k (fmul b b) (e >>> 1) (fmul r b) (by rw [he2]; omega) (by omega) (by rw [fmul_toNat]; exact Nat.mod_lt _ (by omega))
          refine ⟨s, e1, ?_⟩
          rw [e2, fmul_toNat, fmul_toNat, pow_red, pow_two_mul, he2, Nat.mul_assoc, Nat.mul_comm b.toNat, ← Nat.pow_succ, show (2 * (e.toNat / 2)).succ = e.toNat by omega]
        · rw [if_neg (by rw [decide_eq_false h1]; simp), exchangePowerJ3, mul_eq, Option.bind_some]
          obtain ⟨s, e1, e2⟩ := ih k (fmul b b) (e >>> 1) r (by rw [he2]; omega) (by omega) hr
          refine ⟨s, e1, ?_⟩
          have := pow_red r.toNat (b.toNat * b.toNat) 2305843009213693951 (e.toNat / 2)
          rw [Nat.mod_eq_of_lt hr] at this
          rw [e2, fmul_toNat, he2, this, pow_two_mul, show 2 * (e.toNat / 2) = e.toNat by omega]
theorem power_eq (a e : BitVec 64) : exchangePower a e = some (fpow a e.toNat) := by
  obtain ⟨s, e1, e2⟩ := power_loop 64 FUEL a e 1#64 e.isLt (by simp only [FUEL]; omega) (by decide)
  rw [exchangePower, e1]
  congr 1
  apply BitVec.eq_of_toNat_eq
  rw [e2, fpow_toNat, show (1#64).toNat = 1 from rfl, Nat.one_mul]
theorem refPower_loop (a e : BitVec 64) : ∀ (j k : Nat) (v : BitVec 64), j ≤ 64 → j < k → v.toNat = a.toNat ^ (e.toNat / 2 ^ j) % 2305843009213693951 → passkeyref3PowerL2 a e k v ((j : Int) - 1) = some (fpow a e.toNat) := by
  intro j
  induction j with
  | zero =>
    intro k v hj hk hv
    cases k with
    | zero => exact absurd hk (Nat.not_lt_zero _)
    | succ k =>
      rw [passkeyref3PowerL2, if_neg (by simp), passkeyref3PowerJ1]
      congr 1
      apply BitVec.eq_of_toNat_eq
      rw [hv, fpow_toNat, Nat.pow_zero, Nat.div_one]
  | succ j ih =>
    intro k v hj hk hv
    cases k with
    | zero => exact absurd hk (Nat.not_lt_zero _)
    | succ k =>
      have e1 : ((j + 1 : Nat) : Int) - 1 = (j : Int) := by omega
      have e3 : w64 ((j : Int) - 1) = (j : Int) - 1 := w64_of (by omega) (by omega)
      have hq : e.toNat / 2 ^ j = 2 * (e.toNat / 2 ^ (j + 1)) + e.toNat / 2 ^ j % 2 := by
        rw [Nat.pow_succ, ← Nat.div_div_eq_div_mul]; omega
      have h2 : (fmul v v).toNat = a.toNat ^ (2 * (e.toNat / 2 ^ (j + 1))) % 2305843009213693951 := by
        rw [fmul_toNat, hv, ← Nat.mul_mod, ← Nat.pow_two, ← Nat.pow_mul, Nat.mul_comm (e.toNat / 2 ^ (j + 1)) 2]
      rw [e1, passkeyref3PowerL2, if_pos (by simp), refMul_eq, Option.bind_some, ofInt_small j (by omega), nat_bit]
      by_cases hb : e.toNat / 2 ^ j % 2 = 1
      · rw [if_pos (by rw [decide_eq_true hb]), refMul_eq, Option.bind_some, passkeyref3PowerJ3, e3]
        refine ih k _ (by omega) (by omega) ?_
        rw [hb] at hq
        rw [fmul_toNat, h2, Nat.mod_mul_mod, ← Nat.pow_succ, hq]
      · rw [if_neg (by rw [decide_eq_false hb]; simp), passkeyref3PowerJ3, e3]
        refine ih k _ (by omega) (by omega) ?_
        rw [show e.toNat / 2 ^ j % 2 = 0 by omega, Nat.add_zero] at hq
        rw [h2, hq]
theorem refPower_eq (a e : BitVec 64) : passkeyref3Power a e = some (fpow a e.toNat) := by
  rw [passkeyref3Power]
  have := refPower_loop a e 64 FUEL 1#64 (by omega) (by simp only [FUEL]; omega) (by rw [Nat.div_eq_of_lt e.isLt]; rfl)
  exact this
theorem exchangePower_holds (a0 a1 : BitVec 64) (a2 : BitVec 8) : passkeylaw5ExchangePower a0 a1 a2 = some true := by
  rw [passkeylaw5ExchangePower]
  simp only [power_eq, refPower_eq, Option.bind_some, beq_self_eq_true, if_true, awake_eq]
end Go.Proofs.Ty
