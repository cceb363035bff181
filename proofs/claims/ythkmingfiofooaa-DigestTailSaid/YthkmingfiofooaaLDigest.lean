/- The plain laws of the digest. -/
import Derived.Test.YthkmingfiofooaaPDigest
set_option linter.unusedSimpArgs false
set_option linter.unusedVariables false
namespace Go.Proofs.Ty
open Go Go.RW
theorem awake_eq : passkeylaw2awake = some true := by kernel_rfl
theorem mac_eq (k : BitVec 64) (d : Int) (b : List (BitVec 8)) (hb : b.length ≤ 140737488351232) : digestMac k d b = some (sip k (1#64 + BitVec.ofInt 64 d) b) := by
  rw [digestMac, sum_eq _ _ b hb]; rfl
theorem ref_mac_eq (k : BitVec 64) (d : Int) (b : List (BitVec 8)) (hb : b.length ≤ 140737488351232) : passkeyref1Mac k d b = some (sip k (1#64 + BitVec.ofInt 64 d) b) := by
  rw [passkeyref1Mac, ref_sum_eq _ _ b hb]; rfl
theorem sums_holds (k0 k1 : BitVec 64) (b : List (BitVec 8)) (hb : b.length ≤ 140737488351232) : passkeylaw2DigestSums k0 k1 b = some true := by
  rw [passkeylaw2DigestSums, awake_eq, sum_eq k0 k1 b hb, ref_sum_eq k0 k1 b hb]
  simp
theorem words_holds (l m : List (BitVec 64)) (hl : l.length * 8 ≤ 140737488351232) (hm : m.length * 8 ≤ 140737488351232) : passkeylaw2DigestWords l m = some true := by
  have J : ∀ v : Bool, (v = false → l.length ≤ 100 ∧ m.length ≤ 100) → passkeylaw2DigestWordsJ1 l m v = some true := by
    intro v hv
    rw [passkeylaw2DigestWordsJ1, awake_eq]
    cases v with
    | true => rfl
    | false =>
      obtain ⟨h1, h2⟩ := hv rfl
      rw [if_neg (by simp), asq_pos (by omega), asq_pos (by simp; omega), words_eq _ (by simp; omega), ref_words_eq _ (by simp; omega), words_eq l (by omega), words_eq m (by omega)]
      simp only [Option.bind_some, beq_self_eq_true, if_true]
      rw [asq_pos (by rw [wordsBytes_length, wordsBytes_length]; omega), wordsBytes_append]
      simp
  rw [passkeylaw2DigestWords]
  split
  · exact J true (by simp)
  · rename_i h
    refine J _ fun h2 => ?_
    simp at h h2
    omega
theorem tail_holds (k : BitVec 64) (b : List (BitVec 8)) (n : BitVec 8) (hb : b.length ≤ 140737488351232) : passkeylaw2DigestTail k b n = some true := by
  rw [passkeylaw2DigestTail, awake_eq]
  split
  · rfl
  · rename_i h
    have hl : b.length ≤ 24 := by simp at h; omega
    have hn : (n % 17#8).toNat ≤ 255 := by have := (n % 17#8).isLt; omega
    rw [asq_pos (by omega), asq_pos (by simp only [List.length_append, List.length_replicate, Int.toNat_natCast]; omega), mac_eq _ _ b (by omega), ref_mac_eq _ _ b (by omega), mac_eq _ _ _ (by simp only [List.length_append, List.length_replicate, Int.toNat_natCast]; omega), ref_mac_eq _ _ _ (by simp only [List.length_append, List.length_replicate, Int.toNat_natCast]; omega)]
    simp
theorem derive_eq (k : BitVec 64) (s : List (BitVec 8)) (n : Int) (hs : s.length ≤ 300) : digestDerive k s n = some (sip k (1#64 + BitVec.ofInt 64 4) ((s ++ [0#8]) ++ wordsBytes [BitVec.ofInt 64 n])) := by
  rw [digestDerive, asq_pos (by simp; omega), words_eq _ (by simp), Option.bind_some, asq_pos (by simp only [List.length_append, wordsBytes_length]; simp; omega), mac_eq _ _ _ (by simp only [List.length_append, wordsBytes_length]; simp; omega)]
  rfl
theorem ref_derive_eq (k : BitVec 64) (s : List (BitVec 8)) (n : Int) (hs : s.length ≤ 300) : passkeyref1Derive k s n = some (sip k (1#64 + BitVec.ofInt 64 4) ((s ++ [0#8]) ++ wordsBytes [BitVec.ofInt 64 n])) := by
  rw [passkeyref1Derive, asq_pos (by simp; omega), ref_words_eq _ (by simp), Option.bind_some, asq_pos (by simp only [List.length_append, wordsBytes_length]; simp; omega), ref_mac_eq _ _ _ (by simp only [List.length_append, wordsBytes_length]; simp; omega)]
  rfl
theorem uses_holds (k : BitVec 64) (d : Int) (b : List (BitVec 8)) (s : List (BitVec 8)) (n : Int) (hd : -9223372036854775808 ≤ d ∧ d ≤ 9223372036854775807) (hb : b.length ≤ 140737488351232) (hs : s.length ≤ 140737488351232) (hn : -9223372036854775808 ≤ n ∧ n ≤ 9223372036854775807) : passkeylaw2DigestUses k d b s n = some true := by
  have J : ∀ v : Bool, (v = false → s.length ≤ 300) → passkeylaw2DigestUsesJ1 k d b s n v = some true := by
    intro v hv
    rw [passkeylaw2DigestUsesJ1, awake_eq]
    cases v with
    | true => rfl
    | false =>
      have h1 := hv rfl
      rw [if_neg (by simp), digestHash, sum_eq _ _ b hb, mac_eq _ _ b hb, sum_eq _ _ b hb, derive_eq k s n h1, ref_derive_eq k s n h1]
      simp
  rw [passkeylaw2DigestUses]
  split
  · exact J true (by simp)
  · refine J _ fun h2 => ?_
    simp at h2
    omega
end Go.Proofs.Ty
