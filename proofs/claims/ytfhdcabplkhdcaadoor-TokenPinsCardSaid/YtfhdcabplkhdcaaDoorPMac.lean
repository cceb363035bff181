/- Authentication codes. -/
import Derived.Test.YtfhdcabplkhdcaaDoorPWord
set_option linter.unusedSimpArgs false
set_option linter.unusedVariables false
namespace Go.Proofs.Ty
open Go Go.RW
def smac (k : BitVec 64) (d : Int) (b : List (BitVec 8)) : BitVec 64 := sip k (1#64 + BitVec.ofInt 64 d) b
theorem mac_eq (k : BitVec 64) (d : Int) (b : List (BitVec 8)) (hb : b.length ≤ 140737488351232) : digestMac k d b = some (smac k d b) := by
  rw [digestMac, sum_eq _ _ _ hb]; rfl
theorem ref_mac_eq (k : BitVec 64) (d : Int) (b : List (BitVec 8)) (hb : b.length ≤ 140737488351232) : passkeyref1Mac k d b = some (smac k d b) := by
  rw [passkeyref1Mac, ref_sum_eq _ _ _ hb]; rfl
theorem words_n (l : List (BitVec 64)) (h : l.length ≤ 10) : digestWords l = some (wordsBytes l) := words_eq l (by omega)
theorem ref_words_n (l : List (BitVec 64)) (h : l.length ≤ 10) : passkeyref1Words l = some (wordsBytes l) := ref_words_eq l (by omega)
theorem words_short (l : List (BitVec 64)) (h : l.length ≤ 10) : (wordsBytes l).length ≤ 80 := by rw [wordsBytes_length]; omega
end Go.Proofs.Ty
