/- Words and their bytes, both ways. -/
import Derived.Test.YtfhdcabplkhdcaaDoorPDigest
set_option linter.unusedSimpArgs false
set_option linter.unusedVariables false
namespace Go.Proofs.Ty
open Go Go.RW
/-- The most significant byte first. -/
def beW (l : List (BitVec 8)) : BitVec 64 := l.foldl (fun w b => (w <<< 8) ||| b.setWidth 64) 0#64
theorem step_toNat (w : BitVec 64) (b : BitVec 8) (h : w.toNat < 2 ^ 56) : ((w <<< 8) ||| b.setWidth 64).toNat = w.toNat * 256 + b.toNat := by
  have hb := b.isLt
  have h1 : (w <<< 8).toNat = w.toNat * 256 := by
    rw [BitVec.toNat_shiftLeft, Nat.shiftLeft_eq, Nat.mod_eq_of_lt (by omega)]
  have h2 : (b.setWidth 64).toNat = b.toNat := by rw [BitVec.toNat_setWidth, Nat.mod_eq_of_lt (by omega)]
  rw [BitVec.toNat_or, h1, h2, show w.toNat * 256 = w.toNat <<< 8 by rw [Nat.shiftLeft_eq], ← Nat.shiftLeft_add_eq_or_of_lt (by omega : b.toNat < 2 ^ 8), Nat.shiftLeft_eq]
theorem beW_toNat (b0 b1 b2 b3 b4 b5 b6 b7 : BitVec 8) : (beW [b0, b1, b2, b3, b4, b5, b6, b7]).toNat = ((((((b0.toNat * 256 + b1.toNat) * 256 + b2.toNat) * 256 + b3.toNat) * 256 + b4.toNat) * 256 + b5.toNat) * 256 + b6.toNat) * 256 + b7.toNat := by
  have h0 := b0.isLt; have h1 := b1.isLt; have h2 := b2.isLt; have h3 := b3.isLt; have h4 := b4.isLt; have h5 := b5.isLt; have h6 := b6.isLt; have h7 := b7.isLt
  simp only [beW, List.foldl_cons, List.foldl_nil]
  have z : ((0#64 : BitVec 64) <<< 8 ||| b0.setWidth 64).toNat = b0.toNat := by rw [step_toNat _ _ (by decide)]; simp
  have e1 := step_toNat _ b1 (by rw [z]; omega); rw [z] at e1
  have e2 := step_toNat _ b2 (by rw [e1]; omega); rw [e1] at e2
  have e3 := step_toNat _ b3 (by rw [e2]; omega); rw [e2] at e3
  have e4 := step_toNat _ b4 (by rw [e3]; omega); rw [e3] at e4
  have e5 := step_toNat _ b5 (by rw [e4]; omega); rw [e4] at e5
  have e6 := step_toNat _ b6 (by rw [e5]; omega); rw [e5] at e6
  have e7 := step_toNat _ b7 (by rw [e6]; omega); rw [e6] at e7
  exact e7
theorem byte_toNat (w : BitVec 64) (k : Nat) : ((w >>> k).setWidth 8).toNat = w.toNat / 2 ^ k % 256 := by
  rw [BitVec.toNat_setWidth, BitVec.toNat_ushiftRight, Nat.shiftRight_eq_div_pow]
theorem wordBytes_list (w : BitVec 64) : wordBytes w = [(w >>> 56).setWidth 8, (w >>> 48).setWidth 8, (w >>> 40).setWidth 8, (w >>> 32).setWidth 8, (w >>> 24).setWidth 8, (w >>> 16).setWidth 8, (w >>> 8).setWidth 8, (w >>> 0).setWidth 8] := rfl
theorem eight {l : List (BitVec 8)} (h : l.length = 8) : ∃ b0 b1 b2 b3 b4 b5 b6 b7, l = [b0, b1, b2, b3, b4, b5, b6, b7] := by
  match l, h with
  | [b0, b1, b2, b3, b4, b5, b6, b7], _ => exact ⟨_, _, _, _, _, _, _, _, rfl⟩
theorem beW_wordBytes (w : BitVec 64) : beW (wordBytes w) = w := by
  apply BitVec.eq_of_toNat_eq
  rw [wordBytes_list, beW_toNat]
  simp only [byte_toNat]
  have h := w.isLt
  generalize w.toNat = n at h
  simp only [Nat.reducePow, Nat.div_one]
  have a1 : n / 256 / 256 = n / 65536 := by omega
  have a2 : n / 65536 / 256 = n / 16777216 := by omega
  have a3 : n / 16777216 / 256 = n / 4294967296 := by omega
  have a4 : n / 4294967296 / 256 = n / 1099511627776 := by omega
  have a5 : n / 1099511627776 / 256 = n / 281474976710656 := by omega
  have a6 : n / 281474976710656 / 256 = n / 72057594037927936 := by omega
  omega
theorem wordBytes_beW {l : List (BitVec 8)} (h : l.length = 8) : wordBytes (beW l) = l := by
  obtain ⟨b0, b1, b2, b3, b4, b5, b6, b7, rfl⟩ := eight h
  have e := beW_toNat b0 b1 b2 b3 b4 b5 b6 b7
  have h0 := b0.isLt; have h1 := b1.isLt; have h2 := b2.isLt; have h3 := b3.isLt; have h4 := b4.isLt; have h5 := b5.isLt; have h6 := b6.isLt; have h7 := b7.isLt
  rw [wordBytes_list]
  generalize beW [b0, b1, b2, b3, b4, b5, b6, b7] = w at e
  have bt : ∀ (b : BitVec 8) (k : Nat), w.toNat / 2 ^ k % 256 = b.toNat → (w >>> k).setWidth 8 = b := fun b k hk => BitVec.eq_of_toNat_eq (by rw [byte_toNat]; exact hk)
  rw [bt b0 56 (by rw [e]; simp only [Nat.reducePow]; omega), bt b1 48 (by rw [e]; simp only [Nat.reducePow]; omega), bt b2 40 (by rw [e]; simp only [Nat.reducePow]; omega), bt b3 32 (by rw [e]; simp only [Nat.reducePow]; omega),
    bt b4 24 (by rw [e]; simp only [Nat.reducePow]; omega), bt b5 16 (by rw [e]; simp only [Nat.reducePow]; omega), bt b6 8 (by rw [e]; simp only [Nat.reducePow]; omega), bt b7 0 (by rw [e]; simp only [Nat.reducePow]; omega)]
theorem words1 (w : BitVec 64) : wordsBytes [w] = wordBytes w := by simp [wordsBytes]
theorem beW_snoc (l : List (BitVec 8)) (b : BitVec 8) : beW (l ++ [b]) = (beW l <<< 8) ||| b.setWidth 64 := by simp [beW]
/-- A loop that reads a word: from byte i on. -/
def beStep (w : BitVec 64) (b : BitVec 8) : BitVec 64 := (w <<< 8) ||| b.setWidth 64
theorem beW_step (l : List (BitVec 8)) : beW l = l.foldl beStep 0#64 := rfl
/-- A loop that reads a word: from byte i on. -/
theorem fold_drop {l : List (BitVec 8)} {i : Nat} (hi : i < l.length) (v : BitVec 64) : (l.drop i).foldl beStep v = (l.drop (i + 1)).foldl beStep ((v <<< 8) ||| (l.getD i 0#8).setWidth 64) := by
  rw [List.drop_eq_getElem_cons hi, List.foldl_cons]
  have e : l.getD i 0#8 = l[i] := by rw [List.getD_eq_getElem?_getD, List.getElem?_eq_getElem hi]; rfl
  rw [e]; rfl
end Go.Proofs.Ty
