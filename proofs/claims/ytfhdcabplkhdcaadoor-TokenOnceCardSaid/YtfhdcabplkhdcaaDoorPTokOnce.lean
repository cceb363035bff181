/- Law TokenOnce: each permission of a token is used once. -/
import Derived.Test.YtfhdcabplkhdcaaDoorPTok
set_option linter.unusedSimpArgs false
set_option linter.unusedVariables false
namespace Go.Proofs.Ty
open Go Go.RW
def nmA : List (BitVec 8) := [97#8, 46#8, 101#8, 120#8, 97#8, 109#8, 112#8, 108#8, 101#8]
def nmB : List (BitVec 8) := [98#8, 46#8, 101#8, 120#8, 97#8, 109#8, 112#8, 108#8, 101#8]
def stT (s v : BitVec 64) (perm : Int) : TApiToken := if perm = 0 then TApiToken.mk s false 0#64 0 [] 0 else TApiToken.mk s true v perm nmA 1000
theorem z1 (b : Bool) : ((if b = true then (0 : Int) else 29) == 0) = b := by cases b <;> rfl
theorem z2 (b : Bool) : ((if b = true then (0 : Int) else 29) != 29) = b := by cases b <;> rfl
theorem use_st (s v : BitVec 64) (perm bit : Int) (h0 : 0 ≤ bit) (h7 : bit ≤ 7) (hz : ibits .andNot .i64 0 bit = 0) : tokenUse (stT s v perm) bit = some (stT s v (ibits .andNot .i64 perm bit)) := by
  rw [tokenUse, if_neg (by rw [decide_eq_true_eq]; omega), tokenUseJ1, if_neg (by rw [decide_eq_true_eq]; omega)]
  by_cases hp : perm = 0
  · subst hp
    rw [hz]
    simp only [stT, if_true, hz, beq_self_eq_true, tokenStart, Option.bind_some]
  · have e : stT s v perm = TApiToken.mk s true v perm nmA 1000 := by rw [stT, if_neg hp]
    rw [e]
    by_cases hq : ibits .andNot .i64 perm bit = 0
    · simp only [hq, beq_self_eq_true, if_true, tokenStart, Option.bind_some, stT]
    · rw [if_neg (by simpa using hq), stT, if_neg hq]
theorem later_eq (a : BitVec 8) : ((BitVec.ofInt 64 (1000 + (a.toNat : Int))) - (BitVec.ofInt 64 1000)).toNat = a.toNat := by
  have h := a.isLt
  have e1 : (BitVec.ofInt 64 (1000 + (a.toNat : Int))).toNat = 1000 + a.toNat := by rw [BitVec.toNat_ofInt]; omega
  have e2 : (BitVec.ofInt 64 1000).toNat = 1000 := rfl
  rw [BitVec.toNat_sub, e1, e2]; omega
theorem ok_none (s v : BitVec 64) (now p : Int) (rp : List (BitVec 8)) (q a : BitVec 64) : okV (stT s v 0) now p rp q a = false := rfl
theorem ok_B (s v : BitVec 64) (perm p : Int) (q a : BitVec 64) : okV (stT s v perm) 1000 p nmB q a = false := by
  by_cases hp : perm = 0
  · rw [hp]; rfl
  · have e : ((nmA == []) || (nmA == nmB)) = false := by decide
    rw [stT, if_neg hp, okV]
    simp only [e, Bool.and_false, Bool.false_and]
theorem ok_C (s v : BitVec 64) (perm p : Int) (rp : List (BitVec 8)) (q a : BitVec 64) : okV (stT s v perm) 999 p rp q a = false := by
  by_cases hp : perm = 0
  · rw [hp]; rfl
  · have e : decide ((1000 : Int) ≤ 999) = false := by decide
    rw [stT, if_neg hp, okV]
    simp only [e, Bool.and_false, Bool.false_and]
theorem ok_A (s v : BitVec 64) (perm p : Int) (q : BitVec 64) (a : BitVec 8) (h1 : 1 ≤ p) (h7 : p ≤ 7) (hz : ibits .and .i64 0 p = 0) : okV (stT s v perm) (1000 + (a.toNat : Int)) p nmA q (codeS v q) = ((ibits .and .i64 perm p == p) && decide (a.toNat ≤ 100)) := by
  by_cases hp : perm = 0
  · subst hp
    rw [ok_none, hz, beq_eq_false_iff_ne.2 (by omega)]; rfl
  · have e : decide ((1000 : Int) ≤ 1000 + (a.toNat : Int)) = true := by rw [decide_eq_true_eq]; omega
    have e2 : ((nmA == []) || (nmA == nmA)) = true := by decide
    rw [stT, if_neg hp, okV]
    simp only [e, e2, later_eq, decide_eq_true h1, decide_eq_true h7, beq_self_eq_true, Bool.and_true, Bool.true_and]
    rw [Bool.or_true, Bool.and_true, Bool.and_comm]; rfl
theorem once_step (s v : BitVec 64) (a2 a3 : BitVec 8) (q : BitVec 64) (p perm bit : Int) (k : Nat) (hP : w64 (1 + ((a2 % 7#8).toNat : Int)) = p) (hb : bit = 1 ∨ bit = 2 ∨ bit = 4) (hf : (ibits .and .i64 perm bit == bit) = (ibits .and .i64 p bit != 0)) (hn : (ibits .and .i64 (ibits .andNot .i64 perm bit) bit == bit) = false) :
    passkeylaw12TokenOnceL2 s a2 a3 q (codeS v q) (k + 1) (stT s v perm).Secret (stT s v perm).Active (stT s v perm).Value (stT s v perm).Permissions (stT s v perm).RP (stT s v perm).Since bit =
    passkeylaw12TokenOnceL2 s a2 a3 q (codeS v q) k (stT s v (ibits .andNot .i64 perm bit)).Secret (stT s v (ibits .andNot .i64 perm bit)).Active (stT s v (ibits .andNot .i64 perm bit)).Value (stT s v (ibits .andNot .i64 perm bit)).Permissions (stT s v (ibits .andNot .i64 perm bit)).RP (stT s v (ibits .andNot .i64 perm bit)).Since (2 * bit) := by
  have hz1 : ibits .and .i64 0 bit = 0 := by rcases hb with rfl | rfl | rfl <;> decide
  have hz2 : ibits .andNot .i64 0 bit = 0 := by rcases hb with rfl | rfl | rfl <;> decide
  have h3 := a3.isLt
  have hw : w64 (1000 + (a3.toNat : Int)) = 1000 + (a3.toNat : Int) := w64_of (by omega) (by omega)
  have hw2 : w64 (2 * bit) = 2 * bit := w64_of (by omega) (by omega)
  have hA := ok_A s v perm bit q a3 (by omega) (by omega) hz1
  have hB := ok_B s v perm bit q (codeS v q)
  have hC := ok_C s v perm bit nmA q (codeS v q)
  have hD := ok_A s v (ibits .andNot .i64 perm bit) bit q 0#8 (by omega) (by omega) hz1
  rw [hn] at hD
  have hJ : ∀ b : Bool, b = ((ibits .and .i64 perm bit == bit) && decide (a3.toNat ≤ 100)) → passkeylaw12TokenOnceJ3 (passkeylaw12TokenOnceL2 s a2 a3 q (codeS v q) k) a3 q (codeS v q) (stT s v perm).Secret (stT s v perm).Active (stT s v perm).Value (stT s v perm).Permissions (stT s v perm).RP (stT s v perm).Since bit b = passkeylaw12TokenOnceL2 s a2 a3 q (codeS v q) k (stT s v (ibits .andNot .i64 perm bit)).Secret (stT s v (ibits .andNot .i64 perm bit)).Active (stT s v (ibits .andNot .i64 perm bit)).Value (stT s v (ibits .andNot .i64 perm bit)).Permissions (stT s v (ibits .andNot .i64 perm bit)).RP (stT s v (ibits .andNot .i64 perm bit)).Since (2 * bit) := by
    intro b hb'
    have et : ∀ t : TApiToken, TApiToken.mk t.Secret t.Active t.Value t.Permissions t.RP t.Since = t := fun t => rfl
    have v1 : tokenVerify (stT s v perm) (w64 (1000 + (a3.toNat : Int))) bit nmA q (codeS v q) = some (if b = true then 0 else 29) := by rw [verify_eq, hw, hA, ← hb']
    have v2 : tokenVerify (stT s v perm) 1000 bit nmB q (codeS v q) = some 29 := by rw [verify_eq, hB]; rfl
    have v3 : tokenVerify (stT s v perm) 999 bit nmA q (codeS v q) = some 29 := by rw [verify_eq, hC]; rfl
    have v4 : tokenVerify (stT s v (ibits .andNot .i64 perm bit)) 1000 bit nmA q (codeS v q) = some 29 := by
      rw [verify_eq, show (1000 : Int) = 1000 + ((0#8).toNat : Int) from rfl, hD]; rfl
    have vU := use_st s v perm bit (by omega) (by omega) hz2
    have j4 : passkeylaw12TokenOnceJ4 (passkeylaw12TokenOnceL2 s a2 a3 q (codeS v q) k) q (codeS v q) (stT s v perm).Secret (stT s v perm).Active (stT s v perm).Value (stT s v perm).Permissions (stT s v perm).RP (stT s v perm).Since bit false = passkeylaw12TokenOnceL2 s a2 a3 q (codeS v q) k (stT s v (ibits .andNot .i64 perm bit)).Secret (stT s v (ibits .andNot .i64 perm bit)).Active (stT s v (ibits .andNot .i64 perm bit)).Value (stT s v (ibits .andNot .i64 perm bit)).Permissions (stT s v (ibits .andNot .i64 perm bit)).RP (stT s v (ibits .andNot .i64 perm bit)).Since (2 * bit) := by
      rw [passkeylaw12TokenOnceJ4, if_neg (by decide), et, vU, Option.bind_some, et]
      rw [show ([97#8, 46#8, 101#8, 120#8, 97#8, 109#8, 112#8, 108#8, 101#8] : List (BitVec 8)) = nmA from rfl, v4, Option.bind_some, if_neg (by decide), hw2]
    rw [passkeylaw12TokenOnceJ3, et, show ([97#8, 46#8, 101#8, 120#8, 97#8, 109#8, 112#8, 108#8, 101#8] : List (BitVec 8)) = nmA from rfl, show ([98#8, 46#8, 101#8, 120#8, 97#8, 109#8, 112#8, 108#8, 101#8] : List (BitVec 8)) = nmB from rfl, v1, Option.bind_some, z1, if_neg (by simp), v2, Option.bind_some, if_neg (by decide), v3, Option.bind_some]
    exact j4
  rw [passkeylaw12TokenOnceL2, if_pos (by rw [decide_eq_true_eq]; omega), lett_def, hP]
  by_cases c : ibits .and .i64 p bit = 0
  · rw [if_neg (by simpa using c)]
    refine hJ false ?_
    rw [hf, c]; rfl
  · rw [if_pos (by simpa using c)]
    refine hJ _ ?_
    rw [hf, show (ibits .and .i64 p bit != 0) = true by simpa using c]; rfl
theorem once_loop (s v : BitVec 64) (a2 a3 : BitVec 8) (q : BitVec 64) (p : Int) (hP : w64 (1 + ((a2 % 7#8).toNat : Int)) = p) (hp : p = 1 ∨ p = 2 ∨ p = 3 ∨ p = 4 ∨ p = 5 ∨ p = 6 ∨ p = 7) : passkeylaw12TokenOnceL2 s a2 a3 q (codeS v q) FUEL (stT s v p).Secret (stT s v p).Active (stT s v p).Value (stT s v p).Permissions (stT s v p).RP (stT s v p).Since 1 = some true := by
  obtain ⟨k, hk⟩ : ∃ k, FUEL = k + 1 + 1 + 1 + 1 := ⟨18446744073709551612, rfl⟩
  rw [hk]
  have last : ∀ k, passkeylaw12TokenOnceL2 s a2 a3 q (codeS v q) (k + 1) (stT s v 0).Secret (stT s v 0).Active (stT s v 0).Value (stT s v 0).Permissions (stT s v 0).RP (stT s v 0).Since (2 * (2 * (2 * 1))) = some true := by
    intro k
    rw [passkeylaw12TokenOnceL2, if_neg (by decide), passkeylaw12TokenOnceJ1, show (stT s v 0).Active = false from rfl, show (stT s v 0).Secret = s from rfl, if_pos (by decide), if_pos (beq_self_eq_true s), awake_eq]; rfl
  rcases hp with rfl | rfl | rfl | rfl | rfl | rfl | rfl <;>
  (rw [once_step s v a2 a3 q _ _ 1 _ hP (by decide) (by decide) (by decide), once_step s v a2 a3 q _ _ (2 * 1) _ hP (by decide) (by decide) (by decide), once_step s v a2 a3 q _ _ (2 * (2 * 1)) _ hP (by decide) (by decide) (by decide)]
   exact last k)
theorem tokenOnce_holds (a0 a1 : BitVec 64) (a2 a3 : BitVec 8) (a4 : BitVec 64) : passkeylaw12TokenOnce a0 a1 a2 a3 a4 = some true := by
  have hm : (a2 % 7#8).toNat < 7 := by rw [BitVec.toNat_umod]; exact Nat.mod_lt _ (by decide)
  have hP : w64 (1 + ((a2 % 7#8).toNat : Int)) = 1 + ((a2 % 7#8).toNat : Int) := w64_of (by omega) (by omega)
  have hi : issueS (TApiToken.mk a0 false 0#64 0 [] 0) a1 (1 + ((a2 % 7#8).toNat : Int)) nmA 1000 = (stT a0 a1 (1 + ((a2 % 7#8).toNat : Int)), 0) := by
    rw [issueS, if_neg (by omega), if_neg (by decide), stT, if_neg (by omega)]
  rw [passkeylaw12TokenOnce, tokenStart, Option.bind_some, issue_eq, Option.bind_some, hP, show ([97#8, 46#8, 101#8, 120#8, 97#8, 109#8, 112#8, 108#8, 101#8] : List (BitVec 8)) = nmA from rfl, hi, if_neg (by simp), auth_eq, Option.bind_some]
  exact once_loop a0 a1 a2 a3 a4 (1 + ((a2 % 7#8).toNat : Int)) hP (by omega)
end Go.Proofs.Ty
