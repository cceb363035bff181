/- Numbers: bits, remainders. -/
import Derived.Test.YtfhdcabplkhdcaaDoorF
set_option linter.unusedSimpArgs false
set_option linter.unusedVariables false
namespace Go.Proofs.Ty
open Go Go.RW
/-! ### bits of signed numbers -/
theorem iand_nat (x : Int) (m : Nat) (hm : m < 9223372036854775808) : ∃ r : Nat, ibits .and .i64 x m = (r : Int) ∧ r ≤ m := by
  refine ⟨(BitVec.ofInt 64 x &&& BitVec.ofInt 64 (m : Int)).toNat, ?_, ?_⟩
  · have h2 : (BitVec.ofInt 64 (m : Int)).toNat = m := by rw [BitVec.toNat_ofInt]; omega
    have h : (BitVec.ofInt 64 x &&& BitVec.ofInt 64 (m : Int)).toNat ≤ m := by
      rw [BitVec.toNat_and, h2]; exact Nat.and_le_right
    show IntKind.i64.wrap ((BitVec.ofInt 64 x &&& BitVec.ofInt 64 (m : Int)).toNat : Int) = _
    exact wrap_i64_small (by omega) (by omega)
  · have h2 : (BitVec.ofInt 64 (m : Int)).toNat = m := by rw [BitVec.toNat_ofInt]; omega
    rw [BitVec.toNat_and, h2]; exact Nat.and_le_right
theorem iand_range (x m : Int) (h0 : 0 ≤ m) (hm : m < 9223372036854775808) : 0 ≤ ibits .and .i64 x m ∧ ibits .and .i64 x m ≤ m := by
  obtain ⟨n, rfl⟩ := Int.eq_ofNat_of_zero_le h0
  obtain ⟨r, h1, h2⟩ := iand_nat x n (by omega)
  rw [h1]; omega
theorem tmod_range (x n : Int) (h0 : 0 ≤ x) (hn : 0 < n) : 0 ≤ x.tmod n ∧ x.tmod n < n := by
  rw [Int.tmod_eq_emod_of_nonneg h0]
  exact ⟨Int.emod_nonneg _ (by omega), Int.emod_lt_of_pos _ hn⟩

end Go.Proofs.Ty
